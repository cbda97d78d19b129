import Derived.Test.YtmaclibfncchgaaGreatDoorRefA
set_option linter.all false
/-! Small, Valid, Sets, Lists of the reference. -/
namespace Go.Proofs
open Go Go.Ab
variable [LoopTab]
def SmallF (nx : List (List Int)) (m : Nat) : Prop := nx.length ≤ m ∧ ∀ i, i < nx.length → (lx nx i).length ≤ 8
def SmallInv (A0 : AH) (β : Nat) (nx : List (List Int)) (m : Nat) (k : Nat) (e : En) (A : AH) : Prop := ∃ i : Nat, k = nx.length - i ∧ i ≤ nx.length ∧ e.get 2 = .ptr β 0 ∧ e.get 1 = IV m ∧ e.get 5 = IV i ∧ A = A0 ∧ ∀ j, j < i → (lx nx j).length ≤ 8
theorem small17_spec (A : AH) (p : AV) (nx : List (List Int)) (cs : List AV) (m : Nat) (h : Fl A p nx cs) : FnW Tryz.prog 25 [.agg [p], IV m] A fun u A' => IsB u (SmallF nx m) ∧ Ext A A' := by
  refine FnW.body Tryz.func25 (by decide) rfl Tryz.ntmps25 ?_
  generalize hE : bindArgs _ 0 _ = E
  have a0 := (congrArg (fun e => En.get e 0) hE).symm
  simp [bindArgs, kept, En.get_bind] at a0
  have a1 := (congrArg (fun e => En.get e 1) hE).symm
  simp [bindArgs, kept, En.get_bind] at a1
  clear hE
  ((try simp only [andThen, endBlock, if_true]); repeat (first | with_reducible refine W.seq ?_ | with_reducible refine W.block ?_ | (refine W.region (by rfl) ?_; (repeat (first | (refine OpsW.step rfl ?_; simp [opV, a0]; done) | (refine OpsW.step rfl ?_; simp [opV, a0]) | (refine OpsW.step ?_ ?_; (focus (simp [wantedA, a0]; done)); simp [opV, a0]) | (refine OpsW.un ?_ ?_; (focus (simp [wantedA, a0]; done))))); (refine OpsW.nil ?_; try simp only [andThen, endBlock]))))
  have hb := Box.new A p
  have hx := Ext.box A (.cells [p])
  have hf := h.ext hx
  generalize A.push (.cells [p]) = B at *
  refine W.loop ?_
  refine LW.induct (SmallInv B A.next nx m) ?_ _ _ B ⟨0, rfl, Nat.zero_le _, by simp, by simp [a1], by simp, rfl, by simp⟩
  rintro k e A1 ⟨i, rfl, hi, e2, e1, e5, rfl, hs⟩
  ((try simp only [andThen, endBlock, if_true]); repeat (first | with_reducible refine W.seq ?_ | with_reducible refine W.block ?_ | (refine W.region (by rfl) ?_; (repeat (first | (refine OpsW.step rfl ?_; simp [opV, e2, e5, box_load hb.get Tryz.sh22, Fl.len hf (P := Tryz.prog) Tryz.underlying22]; done) | (refine OpsW.step rfl ?_; simp [opV, e2, e5, box_load hb.get Tryz.sh22, Fl.len hf (P := Tryz.prog) Tryz.underlying22]) | (refine OpsW.step ?_ ?_; (focus (simp [wantedA, e2, e5, box_load hb.get Tryz.sh22, Fl.len hf (P := Tryz.prog) Tryz.underlying22]; done)); simp [opV, e2, e5, box_load hb.get Tryz.sh22, Fl.len hf (P := Tryz.prog) Tryz.underlying22]) | (refine OpsW.un ?_ ?_; (focus (simp [wantedA, e2, e5, box_load hb.get Tryz.sh22, Fl.len hf (P := Tryz.prog) Tryz.underlying22]; done))))); (refine OpsW.nil ?_; try simp only [andThen, endBlock]))))
  by_cases hlt : i < nx.length
  · (refine W.cond true ?_ ?_; (focus (simp [hlt]; done)); simp only [if_true])
    (refine W.skip ?_; try simp only [andThen, endBlock])
    ((try simp only [andThen, endBlock, if_true]); repeat (first | with_reducible refine W.seq ?_ | with_reducible refine W.block ?_ | (refine W.region (by rfl) ?_; (repeat (first | (refine OpsW.step rfl ?_; simp [opV, e2, e5, box_load hb.get Tryz.sh22, Fl.len hf (P := Tryz.prog) Tryz.underlying22, Fl.idx hf Tryz.underlying22 Tryz.sz39 hlt, Fl.load hf Tryz.sh36 hlt, IntSl.len (hf.el i hlt) (P := Tryz.prog) Tryz.underlying36]; done) | (refine OpsW.step rfl ?_; simp [opV, e2, e5, box_load hb.get Tryz.sh22, Fl.len hf (P := Tryz.prog) Tryz.underlying22, Fl.idx hf Tryz.underlying22 Tryz.sz39 hlt, Fl.load hf Tryz.sh36 hlt, IntSl.len (hf.el i hlt) (P := Tryz.prog) Tryz.underlying36]) | (refine OpsW.step ?_ ?_; (focus (simp [wantedA, e2, e5, box_load hb.get Tryz.sh22, Fl.len hf (P := Tryz.prog) Tryz.underlying22, Fl.idx hf Tryz.underlying22 Tryz.sz39 hlt, Fl.load hf Tryz.sh36 hlt, IntSl.len (hf.el i hlt) (P := Tryz.prog) Tryz.underlying36]; done)); simp [opV, e2, e5, box_load hb.get Tryz.sh22, Fl.len hf (P := Tryz.prog) Tryz.underlying22, Fl.idx hf Tryz.underlying22 Tryz.sz39 hlt, Fl.load hf Tryz.sh36 hlt, IntSl.len (hf.el i hlt) (P := Tryz.prog) Tryz.underlying36]) | (refine OpsW.un ?_ ?_; (focus (simp [wantedA, e2, e5, box_load hb.get Tryz.sh22, Fl.len hf (P := Tryz.prog) Tryz.underlying22, Fl.idx hf Tryz.underlying22 Tryz.sz39 hlt, Fl.load hf Tryz.sh36 hlt, IntSl.len (hf.el i hlt) (P := Tryz.prog) Tryz.underlying36]; done))))); (refine OpsW.nil ?_; try simp only [andThen, endBlock]))))
    by_cases hq : (8 : Int) < (lx nx i).length
    · (refine W.cond true ?_ ?_; (focus (simp [hq]; done)); simp only [if_true])
      ((try simp only [andThen, endBlock, if_true]); repeat (first | with_reducible refine W.seq ?_ | with_reducible refine W.block ?_ | (refine W.region (by rfl) ?_; (repeat (first | (refine OpsW.step rfl ?_; simp [opV]; done) | (refine OpsW.step rfl ?_; simp [opV]) | (refine OpsW.step ?_ ?_; (focus (simp [wantedA]; done)); simp [opV]) | (refine OpsW.un ?_ ?_; (focus (simp [wantedA]; done))))); (refine OpsW.nil ?_; try simp only [andThen, endBlock]))))
      (refine W.ret ?_; try simp only [andThen, endBlock])
      refine ⟨.inr rfl, [.bool false], by simp [Tryz.f25, resultsA, resultA], ?_⟩
      exact ⟨.no fun hS => by have := hS.2 i hlt; omega, hx⟩
    · (refine W.cond false ?_ ?_; (focus (simp [hq]; done)); simp only [Bool.false_eq_true, if_false])
      (refine W.skip ?_; try simp only [andThen, endBlock])
      ((try simp only [andThen, endBlock, if_true]); repeat (first | with_reducible refine W.seq ?_ | with_reducible refine W.block ?_ | (refine W.region (by rfl) ?_; (repeat (first | (refine OpsW.step rfl ?_; simp [opV, e5]; done) | (refine OpsW.step rfl ?_; simp [opV, e5]) | (refine OpsW.step ?_ ?_; (focus (simp [wantedA, e5]; done)); simp [opV, e5]) | (refine OpsW.un ?_ ?_; (focus (simp [wantedA, e5]; done))))); (refine OpsW.nil ?_; try simp only [andThen, endBlock]))))
      exact ⟨_, by omega, i + 1, rfl, by omega, by simp [e2], by simp [e1], by simp [wrap_succ hlt h.le], rfl, fun j hj => by
        by_cases hji : j = i
        · subst hji; omega
        · exact hs j (by omega)⟩
  · (refine W.cond false ?_ ?_; (focus (simp [hlt]; done)); simp only [Bool.false_eq_true, if_false])
    (refine W.exit ?_; try simp only [andThen, endBlock, if_true])
    by_cases hm : nx.length ≤ m
    · ((try simp only [andThen, endBlock, if_true]); repeat (first | with_reducible refine W.seq ?_ | with_reducible refine W.block ?_ | (refine W.region (by rfl) ?_; (repeat (first | (refine OpsW.step rfl ?_; simp [opV, e2, e1, box_load hb.get Tryz.sh22, Fl.len hf (P := Tryz.prog) Tryz.underlying22, hm]; done) | (refine OpsW.step rfl ?_; simp [opV, e2, e1, box_load hb.get Tryz.sh22, Fl.len hf (P := Tryz.prog) Tryz.underlying22, hm]) | (refine OpsW.step ?_ ?_; (focus (simp [wantedA, e2, e1, box_load hb.get Tryz.sh22, Fl.len hf (P := Tryz.prog) Tryz.underlying22, hm]; done)); simp [opV, e2, e1, box_load hb.get Tryz.sh22, Fl.len hf (P := Tryz.prog) Tryz.underlying22, hm]) | (refine OpsW.un ?_ ?_; (focus (simp [wantedA, e2, e1, box_load hb.get Tryz.sh22, Fl.len hf (P := Tryz.prog) Tryz.underlying22, hm]; done))))); (refine OpsW.nil ?_; try simp only [andThen, endBlock]))))
      (refine W.ret ?_; try simp only [andThen, endBlock])
      refine ⟨.inr rfl, [.bool true], by simp [Tryz.f25, resultsA, resultA], ?_⟩
      exact ⟨.yes ⟨hm, fun j hj => hs j (by omega)⟩, hx⟩
    · ((try simp only [andThen, endBlock, if_true]); repeat (first | with_reducible refine W.seq ?_ | with_reducible refine W.block ?_ | (refine W.region (by rfl) ?_; (repeat (first | (refine OpsW.step rfl ?_; simp [opV, e2, e1, box_load hb.get Tryz.sh22, Fl.len hf (P := Tryz.prog) Tryz.underlying22, hm]; done) | (refine OpsW.step rfl ?_; simp [opV, e2, e1, box_load hb.get Tryz.sh22, Fl.len hf (P := Tryz.prog) Tryz.underlying22, hm]) | (refine OpsW.step ?_ ?_; (focus (simp [wantedA, e2, e1, box_load hb.get Tryz.sh22, Fl.len hf (P := Tryz.prog) Tryz.underlying22, hm]; done)); simp [opV, e2, e1, box_load hb.get Tryz.sh22, Fl.len hf (P := Tryz.prog) Tryz.underlying22, hm]) | (refine OpsW.un ?_ ?_; (focus (simp [wantedA, e2, e1, box_load hb.get Tryz.sh22, Fl.len hf (P := Tryz.prog) Tryz.underlying22, hm]; done))))); (refine OpsW.nil ?_; try simp only [andThen, endBlock]))))
      (refine W.ret ?_; try simp only [andThen, endBlock])
      refine ⟨.inr rfl, [.bool false], by simp [Tryz.f25, resultsA, resultA], ?_⟩
      exact ⟨.no fun hS => hm hS.1, hx⟩
theorem small_spec (A : AH) (p : AV) (nx : List (List Int)) (cs : List AV) (m : Nat) (h : Fl A p nx cs) : FnW Tryz.prog 6 [.agg [p], IV m] A fun u A' => IsB u (SmallF nx m) ∧ Ext A A' := by
  refine FnW.body Tryz.func6 (by decide) rfl Tryz.ntmps6 ?_
  generalize hE : bindArgs _ 0 _ = E
  have a0 := (congrArg (fun e => En.get e 0) hE).symm
  simp [bindArgs, kept, En.get_bind] at a0
  have a1 := (congrArg (fun e => En.get e 1) hE).symm
  simp [bindArgs, kept, En.get_bind] at a1
  clear hE
  ((try simp only [andThen, endBlock, if_true]); repeat (first | with_reducible refine W.seq ?_ | with_reducible refine W.block ?_ | (refine W.region (by rfl) ?_; (repeat (first | (refine OpsW.step rfl ?_; simp [opV, a0]; done) | (refine OpsW.step rfl ?_; simp [opV, a0]) | (refine OpsW.step ?_ ?_; (focus (simp [wantedA, a0]; done)); simp [opV, a0]) | (refine OpsW.un ?_ ?_; (focus (simp [wantedA, a0]; done))))); (refine OpsW.nil ?_; try simp only [andThen, endBlock]))))
  have hb := Box.new A p
  have hx := Ext.box A (.cells [p])
  have hf := h.ext hx
  generalize A.push (.cells [p]) = B at *
  (refine W.region (by rfl) ?_; (repeat (first | (refine OpsW.step rfl ?_; simp [opV, a1, box_whole hb.get Tryz.sh24]; done) | (refine OpsW.step rfl ?_; simp [opV, a1, box_whole hb.get Tryz.sh24]) | (refine OpsW.step ?_ ?_; (focus (simp [wantedA, a1, box_whole hb.get Tryz.sh24]; done)); simp [opV, a1, box_whole hb.get Tryz.sh24]) | (refine OpsW.un ?_ ?_; (focus (simp [wantedA, a1, box_whole hb.get Tryz.sh24]; done))))))
  (refine FnW.mono (small17_spec B p nx cs m hf) ?_; rintro u A2 ⟨g1, g2⟩)
  (repeat (first | (refine OpsW.step rfl ?_; simp [opV]; done) | (refine OpsW.step rfl ?_; simp [opV]) | (refine OpsW.step ?_ ?_; (focus (simp [wantedA]; done)); simp [opV]) | (refine OpsW.un ?_ ?_; (focus (simp [wantedA]; done)))))
  (refine OpsW.nil ?_; try simp only [andThen, endBlock])
  (refine W.ret ?_; try simp only [andThen, endBlock])
  refine ⟨.inr rfl, [u], by simp [Tryz.f6, resultsA, resultA], ?_⟩
  exact ⟨g1, hx.trans g2⟩

/-! Valid -/
def ValidF (nx : List (List Int)) : Prop := 2 ≤ nx.length ∧ nx.length ≤ 1024 ∧ (lx nx 1).length = 0 ∧ ∀ i, i < nx.length → ∀ x ∈ lx nx i, 1 ≤ x ∧ x < nx.length
def ValInv (A0 : AH) (β : Nat) (nx : List (List Int)) (k : Nat) (e : En) (A : AH) : Prop := ∃ i : Nat, k = nx.length - i ∧ i ≤ nx.length ∧ e.get 1 = .ptr β 0 ∧ e.get 3 = IV nx.length ∧ e.get 4 = IV i ∧ A = A0 ∧ ∀ j, j < i → ∀ x ∈ lx nx j, 1 ≤ x ∧ x < nx.length
def ValInv2 (A0 : AH) (β : Nat) (nx : List (List Int)) (i : Nat) (k : Nat) (e : En) (A : AH) : Prop := ∃ j : Nat, k = (lx nx i).length - j ∧ j ≤ (lx nx i).length ∧ e.get 1 = .ptr β 0 ∧ e.get 3 = IV nx.length ∧ e.get 4 = IV i ∧ e.get 5 = IV j ∧ A = A0 ∧ ∀ x ∈ (lx nx i).take j, 1 ≤ x ∧ x < nx.length
/-- behind the inner loop: done, or a bad one was met -/
def ValOut (A0 : AH) (β : Nat) (nx : List (List Int)) (i : Nat) (x : Ex) (e : En) (A : AH) : Prop :=
  match x with
  | .exit j => j = 2 ∧ e.get 1 = .ptr β 0 ∧ e.get 3 = IV nx.length ∧ e.get 4 = IV i ∧ A = A0 ∧ ∀ x ∈ lx nx i, 1 ≤ x ∧ x < nx.length
  | .ret => e.get 2 = .bool false ∧ A = A0 ∧ ¬ ∀ x ∈ lx nx i, 1 ≤ x ∧ x < nx.length
  | .normal => False
theorem valid17_spec (A : AH) (p : AV) (nx : List (List Int)) (cs : List AV) (h : Fl A p nx cs) : FnW Tryz.prog 35 [.agg [p]] A fun u A' => IsB u (ValidF nx) ∧ Ext A A' := by
  refine FnW.body Tryz.func35 (by decide) rfl Tryz.ntmps35 ?_
  generalize hE : bindArgs _ 0 _ = E
  have a0 := (congrArg (fun e => En.get e 0) hE).symm
  simp [bindArgs, kept, En.get_bind] at a0
  clear hE
  ((try simp only [andThen, endBlock, if_true]); repeat (first | with_reducible refine W.seq ?_ | with_reducible refine W.block ?_ | (refine W.region (by rfl) ?_; (repeat (first | (refine OpsW.step rfl ?_; simp [opV, a0]; done) | (refine OpsW.step rfl ?_; simp [opV, a0]) | (refine OpsW.step ?_ ?_; (focus (simp [wantedA, a0]; done)); simp [opV, a0]) | (refine OpsW.un ?_ ?_; (focus (simp [wantedA, a0]; done))))); (refine OpsW.nil ?_; try simp only [andThen, endBlock]))))
  have hb := Box.new A p
  have hx := Ext.box A (.cells [p])
  have hf := h.ext hx
  generalize A.push (.cells [p]) = B at *
  ((try simp only [andThen, endBlock, if_true]); repeat (first | with_reducible refine W.seq ?_ | with_reducible refine W.block ?_ | (refine W.region (by rfl) ?_; (repeat (first | (refine OpsW.step rfl ?_; simp [opV, box_load hb.get Tryz.sh22, Fl.len hf (P := Tryz.prog) Tryz.underlying22]; done) | (refine OpsW.step rfl ?_; simp [opV, box_load hb.get Tryz.sh22, Fl.len hf (P := Tryz.prog) Tryz.underlying22]) | (refine OpsW.step ?_ ?_; (focus (simp [wantedA, box_load hb.get Tryz.sh22, Fl.len hf (P := Tryz.prog) Tryz.underlying22]; done)); simp [opV, box_load hb.get Tryz.sh22, Fl.len hf (P := Tryz.prog) Tryz.underlying22]) | (refine OpsW.un ?_ ?_; (focus (simp [wantedA, box_load hb.get Tryz.sh22, Fl.len hf (P := Tryz.prog) Tryz.underlying22]; done))))); (refine OpsW.nil ?_; try simp only [andThen, endBlock]))))
  by_cases c1 : (nx.length : Int) < 2
  · ((try simp only [andThen, endBlock, if_true]); repeat (first | with_reducible refine W.seq ?_ | with_reducible refine W.block ?_ | (refine W.region (by rfl) ?_; (repeat (first | (refine OpsW.step rfl ?_; simp [opV, box_load hb.get Tryz.sh22, Fl.len hf (P := Tryz.prog) Tryz.underlying22, c1]; done) | (refine OpsW.step rfl ?_; simp [opV, box_load hb.get Tryz.sh22, Fl.len hf (P := Tryz.prog) Tryz.underlying22, c1]) | (refine OpsW.step ?_ ?_; (focus (simp [wantedA, box_load hb.get Tryz.sh22, Fl.len hf (P := Tryz.prog) Tryz.underlying22, c1]; done)); simp [opV, box_load hb.get Tryz.sh22, Fl.len hf (P := Tryz.prog) Tryz.underlying22, c1]) | (refine OpsW.un ?_ ?_; (focus (simp [wantedA, box_load hb.get Tryz.sh22, Fl.len hf (P := Tryz.prog) Tryz.underlying22, c1]; done))))); (refine OpsW.nil ?_; try simp only [andThen, endBlock]))))
    (refine W.cond true ?_ ?_; (focus (simp; done)); simp only [if_true])
    ((try simp only [andThen, endBlock, if_true]); repeat (first | with_reducible refine W.seq ?_ | with_reducible refine W.block ?_ | (refine W.region (by rfl) ?_; (repeat (first | (refine OpsW.step rfl ?_; simp [opV]; done) | (refine OpsW.step rfl ?_; simp [opV]) | (refine OpsW.step ?_ ?_; (focus (simp [wantedA]; done)); simp [opV]) | (refine OpsW.un ?_ ?_; (focus (simp [wantedA]; done))))); (refine OpsW.nil ?_; try simp only [andThen, endBlock]))))
    (refine W.ret ?_; try simp only [andThen, endBlock])
    refine ⟨.inr rfl, [.bool false], by simp [Tryz.f35, resultsA, resultA], ?_⟩
    exact ⟨.no fun hS => by have := hS.1; omega, hx⟩
  by_cases c2 : (1024 : Int) < nx.length
  · ((try simp only [andThen, endBlock, if_true]); repeat (first | with_reducible refine W.seq ?_ | with_reducible refine W.block ?_ | (refine W.region (by rfl) ?_; (repeat (first | (refine OpsW.step rfl ?_; simp [opV, box_load hb.get Tryz.sh22, Fl.len hf (P := Tryz.prog) Tryz.underlying22, c1, c2]; done) | (refine OpsW.step rfl ?_; simp [opV, box_load hb.get Tryz.sh22, Fl.len hf (P := Tryz.prog) Tryz.underlying22, c1, c2]) | (refine OpsW.step ?_ ?_; (focus (simp [wantedA, box_load hb.get Tryz.sh22, Fl.len hf (P := Tryz.prog) Tryz.underlying22, c1, c2]; done)); simp [opV, box_load hb.get Tryz.sh22, Fl.len hf (P := Tryz.prog) Tryz.underlying22, c1, c2]) | (refine OpsW.un ?_ ?_; (focus (simp [wantedA, box_load hb.get Tryz.sh22, Fl.len hf (P := Tryz.prog) Tryz.underlying22, c1, c2]; done))))); (refine OpsW.nil ?_; try simp only [andThen, endBlock]))))
    (refine W.cond true ?_ ?_; (focus (simp; done)); simp only [if_true])
    ((try simp only [andThen, endBlock, if_true]); repeat (first | with_reducible refine W.seq ?_ | with_reducible refine W.block ?_ | (refine W.region (by rfl) ?_; (repeat (first | (refine OpsW.step rfl ?_; simp [opV]; done) | (refine OpsW.step rfl ?_; simp [opV]) | (refine OpsW.step ?_ ?_; (focus (simp [wantedA]; done)); simp [opV]) | (refine OpsW.un ?_ ?_; (focus (simp [wantedA]; done))))); (refine OpsW.nil ?_; try simp only [andThen, endBlock]))))
    (refine W.ret ?_; try simp only [andThen, endBlock])
    refine ⟨.inr rfl, [.bool false], by simp [Tryz.f35, resultsA, resultA], ?_⟩
    exact ⟨.no fun hS => by have := hS.2.1; omega, hx⟩
  have h1lt : 1 < nx.length := by omega
  have hi1 : idxV Tryz.prog 22 p (.int .i64 1) = some (.ptr (pb p) (po p + 3)) := Fl.idx hf (P := Tryz.prog) Tryz.underlying22 Tryz.sz39 (i := 1) h1lt (k := .i64)
  have hl1 : loadA Tryz.prog B 36 (.ptr (pb p) (po p + 3 + 2)) = some (vx cs 5) := Fl.load hf (P := Tryz.prog) Tryz.sh36 (i := 1) h1lt
  have hn1 := hf.el 1 h1lt
  by_cases c3 : 0 < (lx nx 1).length
  · ((try simp only [andThen, endBlock, if_true]); repeat (first | with_reducible refine W.seq ?_ | with_reducible refine W.block ?_ | (refine W.region (by rfl) ?_; (repeat (first | (refine OpsW.step rfl ?_; simp [opV, box_load hb.get Tryz.sh22, Fl.len hf (P := Tryz.prog) Tryz.underlying22, c1, c2, hi1, hl1, IntSl.len hn1 (P := Tryz.prog) Tryz.underlying36, c3]; done) | (refine OpsW.step rfl ?_; simp [opV, box_load hb.get Tryz.sh22, Fl.len hf (P := Tryz.prog) Tryz.underlying22, c1, c2, hi1, hl1, IntSl.len hn1 (P := Tryz.prog) Tryz.underlying36, c3]) | (refine OpsW.step ?_ ?_; (focus (simp [wantedA, box_load hb.get Tryz.sh22, Fl.len hf (P := Tryz.prog) Tryz.underlying22, c1, c2, hi1, hl1, IntSl.len hn1 (P := Tryz.prog) Tryz.underlying36, c3]; done)); simp [opV, box_load hb.get Tryz.sh22, Fl.len hf (P := Tryz.prog) Tryz.underlying22, c1, c2, hi1, hl1, IntSl.len hn1 (P := Tryz.prog) Tryz.underlying36, c3]) | (refine OpsW.un ?_ ?_; (focus (simp [wantedA, box_load hb.get Tryz.sh22, Fl.len hf (P := Tryz.prog) Tryz.underlying22, c1, c2, hi1, hl1, IntSl.len hn1 (P := Tryz.prog) Tryz.underlying36, c3]; done))))); (refine OpsW.nil ?_; try simp only [andThen, endBlock]))))
    (refine W.cond true ?_ ?_; (focus (simp; done)); simp only [if_true])
    ((try simp only [andThen, endBlock, if_true]); repeat (first | with_reducible refine W.seq ?_ | with_reducible refine W.block ?_ | (refine W.region (by rfl) ?_; (repeat (first | (refine OpsW.step rfl ?_; simp [opV]; done) | (refine OpsW.step rfl ?_; simp [opV]) | (refine OpsW.step ?_ ?_; (focus (simp [wantedA]; done)); simp [opV]) | (refine OpsW.un ?_ ?_; (focus (simp [wantedA]; done))))); (refine OpsW.nil ?_; try simp only [andThen, endBlock]))))
    (refine W.ret ?_; try simp only [andThen, endBlock])
    refine ⟨.inr rfl, [.bool false], by simp [Tryz.f35, resultsA, resultA], ?_⟩
    exact ⟨.no fun hS => by have := hS.2.2.1; omega, hx⟩
  have c4 : lx nx 1 = [] := List.length_eq_zero_iff.1 (by omega)
  ((try simp only [andThen, endBlock, if_true]); repeat (first | with_reducible refine W.seq ?_ | with_reducible refine W.block ?_ | (refine W.region (by rfl) ?_; (repeat (first | (refine OpsW.step rfl ?_; simp [opV, box_load hb.get Tryz.sh22, Fl.len hf (P := Tryz.prog) Tryz.underlying22, c1, c2, hi1, hl1, IntSl.len hn1 (P := Tryz.prog) Tryz.underlying36, c4]; done) | (refine OpsW.step rfl ?_; simp [opV, box_load hb.get Tryz.sh22, Fl.len hf (P := Tryz.prog) Tryz.underlying22, c1, c2, hi1, hl1, IntSl.len hn1 (P := Tryz.prog) Tryz.underlying36, c4]) | (refine OpsW.step ?_ ?_; (focus (simp [wantedA, box_load hb.get Tryz.sh22, Fl.len hf (P := Tryz.prog) Tryz.underlying22, c1, c2, hi1, hl1, IntSl.len hn1 (P := Tryz.prog) Tryz.underlying36, c4]; done)); simp [opV, box_load hb.get Tryz.sh22, Fl.len hf (P := Tryz.prog) Tryz.underlying22, c1, c2, hi1, hl1, IntSl.len hn1 (P := Tryz.prog) Tryz.underlying36, c4]) | (refine OpsW.un ?_ ?_; (focus (simp [wantedA, box_load hb.get Tryz.sh22, Fl.len hf (P := Tryz.prog) Tryz.underlying22, c1, c2, hi1, hl1, IntSl.len hn1 (P := Tryz.prog) Tryz.underlying36, c4]; done))))); (refine OpsW.nil ?_; try simp only [andThen, endBlock]))))
  (refine W.cond false ?_ ?_; (focus (simp; done)); simp only [Bool.false_eq_true, if_false])
  (refine W.skip ?_; try simp only [andThen, endBlock])
  ((try simp only [andThen, endBlock, if_true]); repeat (first | with_reducible refine W.seq ?_ | with_reducible refine W.block ?_ | (refine W.region (by rfl) ?_; (repeat (first | (refine OpsW.step rfl ?_; simp [opV]; done) | (refine OpsW.step rfl ?_; simp [opV]) | (refine OpsW.step ?_ ?_; (focus (simp [wantedA]; done)); simp [opV]) | (refine OpsW.un ?_ ?_; (focus (simp [wantedA]; done))))); (refine OpsW.nil ?_; try simp only [andThen, endBlock]))))
  refine W.loop ?_
  refine LW.induct (ValInv B A.next nx) ?_ _ _ B ⟨0, rfl, Nat.zero_le _, by simp, by simp, by simp, rfl, by simp⟩
  rintro k e A1 ⟨i, rfl, hi, e1, e3, e4, rfl, hs⟩
  ((try simp only [andThen, endBlock, if_true]); repeat (first | with_reducible refine W.seq ?_ | with_reducible refine W.block ?_ | (refine W.region (by rfl) ?_; (repeat (first | (refine OpsW.step rfl ?_; simp [opV, e3, e4]; done) | (refine OpsW.step rfl ?_; simp [opV, e3, e4]) | (refine OpsW.step ?_ ?_; (focus (simp [wantedA, e3, e4]; done)); simp [opV, e3, e4]) | (refine OpsW.un ?_ ?_; (focus (simp [wantedA, e3, e4]; done))))); (refine OpsW.nil ?_; try simp only [andThen, endBlock]))))
  by_cases hlt : i < nx.length
  · (refine W.cond true ?_ ?_; (focus (simp [hlt]; done)); simp only [if_true])
    (refine W.skip ?_; try simp only [andThen, endBlock])
    ((try simp only [andThen, endBlock, if_true]); repeat (first | with_reducible refine W.seq ?_ | with_reducible refine W.block ?_ | (refine W.region (by rfl) ?_; (repeat (first | (refine OpsW.step rfl ?_; simp [opV]; done) | (refine OpsW.step rfl ?_; simp [opV]) | (refine OpsW.step ?_ ?_; (focus (simp [wantedA]; done)); simp [opV]) | (refine OpsW.un ?_ ?_; (focus (simp [wantedA]; done))))); (refine OpsW.nil ?_; try simp only [andThen, endBlock]))))
    refine W.mono (Q := ValOut A1 A.next nx i) ?_ ?_
    · refine W.loop ?_
      refine LW.induct (ValInv2 A1 A.next nx i) ?_ _ _ A1 ⟨0, rfl, Nat.zero_le _, by simp [e1], by simp [e3], by simp [e4], by simp, rfl, by simp⟩
      rintro k e A2 ⟨j, rfl, hj, e1, e3, e4, e5, rfl, hs2⟩
      have hn := hf.el i hlt
      ((try simp only [andThen, endBlock, if_true]); repeat (first | with_reducible refine W.seq ?_ | with_reducible refine W.block ?_ | (refine W.region (by rfl) ?_; (repeat (first | (refine OpsW.step rfl ?_; simp [opV, e1, e4, e5, box_load hb.get Tryz.sh22, Fl.len hf (P := Tryz.prog) Tryz.underlying22, Fl.idx hf Tryz.underlying22 Tryz.sz39 hlt, Fl.load hf Tryz.sh36 hlt, IntSl.len hn (P := Tryz.prog) Tryz.underlying36]; done) | (refine OpsW.step rfl ?_; simp [opV, e1, e4, e5, box_load hb.get Tryz.sh22, Fl.len hf (P := Tryz.prog) Tryz.underlying22, Fl.idx hf Tryz.underlying22 Tryz.sz39 hlt, Fl.load hf Tryz.sh36 hlt, IntSl.len hn (P := Tryz.prog) Tryz.underlying36]) | (refine OpsW.step ?_ ?_; (focus (simp [wantedA, e1, e4, e5, box_load hb.get Tryz.sh22, Fl.len hf (P := Tryz.prog) Tryz.underlying22, Fl.idx hf Tryz.underlying22 Tryz.sz39 hlt, Fl.load hf Tryz.sh36 hlt, IntSl.len hn (P := Tryz.prog) Tryz.underlying36]; done)); simp [opV, e1, e4, e5, box_load hb.get Tryz.sh22, Fl.len hf (P := Tryz.prog) Tryz.underlying22, Fl.idx hf Tryz.underlying22 Tryz.sz39 hlt, Fl.load hf Tryz.sh36 hlt, IntSl.len hn (P := Tryz.prog) Tryz.underlying36]) | (refine OpsW.un ?_ ?_; (focus (simp [wantedA, e1, e4, e5, box_load hb.get Tryz.sh22, Fl.len hf (P := Tryz.prog) Tryz.underlying22, Fl.idx hf Tryz.underlying22 Tryz.sz39 hlt, Fl.load hf Tryz.sh36 hlt, IntSl.len hn (P := Tryz.prog) Tryz.underlying36]; done))))); (refine OpsW.nil ?_; try simp only [andThen, endBlock]))))
      by_cases hjt : j < (lx nx i).length
      · (refine W.cond true ?_ ?_; (focus (simp [hjt]; done)); simp only [if_true])
        (refine W.skip ?_; try simp only [andThen, endBlock])
        by_cases d1 : ix (lx nx i) j < 1
        · ((try simp only [andThen, endBlock, if_true]); repeat (first | with_reducible refine W.seq ?_ | with_reducible refine W.block ?_ | (refine W.region (by rfl) ?_; (repeat (first | (refine OpsW.step rfl ?_; simp [opV, e1, e3, e4, e5, box_load hb.get Tryz.sh22, Fl.len hf (P := Tryz.prog) Tryz.underlying22, Fl.idx hf Tryz.underlying22 Tryz.sz39 hlt, Fl.load hf Tryz.sh36 hlt, IntSl.idx hn Tryz.underlying36 Tryz.sz3 hjt, IntSl.load hn Tryz.sh3 hjt, d1]; done) | (refine OpsW.step rfl ?_; simp [opV, e1, e3, e4, e5, box_load hb.get Tryz.sh22, Fl.len hf (P := Tryz.prog) Tryz.underlying22, Fl.idx hf Tryz.underlying22 Tryz.sz39 hlt, Fl.load hf Tryz.sh36 hlt, IntSl.idx hn Tryz.underlying36 Tryz.sz3 hjt, IntSl.load hn Tryz.sh3 hjt, d1]) | (refine OpsW.step ?_ ?_; (focus (simp [wantedA, e1, e3, e4, e5, box_load hb.get Tryz.sh22, Fl.len hf (P := Tryz.prog) Tryz.underlying22, Fl.idx hf Tryz.underlying22 Tryz.sz39 hlt, Fl.load hf Tryz.sh36 hlt, IntSl.idx hn Tryz.underlying36 Tryz.sz3 hjt, IntSl.load hn Tryz.sh3 hjt, d1]; done)); simp [opV, e1, e3, e4, e5, box_load hb.get Tryz.sh22, Fl.len hf (P := Tryz.prog) Tryz.underlying22, Fl.idx hf Tryz.underlying22 Tryz.sz39 hlt, Fl.load hf Tryz.sh36 hlt, IntSl.idx hn Tryz.underlying36 Tryz.sz3 hjt, IntSl.load hn Tryz.sh3 hjt, d1]) | (refine OpsW.un ?_ ?_; (focus (simp [wantedA, e1, e3, e4, e5, box_load hb.get Tryz.sh22, Fl.len hf (P := Tryz.prog) Tryz.underlying22, Fl.idx hf Tryz.underlying22 Tryz.sz39 hlt, Fl.load hf Tryz.sh36 hlt, IntSl.idx hn Tryz.underlying36 Tryz.sz3 hjt, IntSl.load hn Tryz.sh3 hjt, d1]; done))))); (refine OpsW.nil ?_; try simp only [andThen, endBlock]))))
          (refine W.cond true ?_ ?_; (focus (simp; done)); simp only [if_true])
          ((try simp only [andThen, endBlock, if_true]); repeat (first | with_reducible refine W.seq ?_ | with_reducible refine W.block ?_ | (refine W.region (by rfl) ?_; (repeat (first | (refine OpsW.step rfl ?_; simp [opV]; done) | (refine OpsW.step rfl ?_; simp [opV]) | (refine OpsW.step ?_ ?_; (focus (simp [wantedA]; done)); simp [opV]) | (refine OpsW.un ?_ ?_; (focus (simp [wantedA]; done))))); (refine OpsW.nil ?_; try simp only [andThen, endBlock]))))
          (refine W.ret ?_; try simp only [andThen, endBlock])
          exact ⟨by simp, rfl, fun hq => by have := (hq _ (ix_mem hjt)).1; omega⟩
        by_cases d2 : (nx.length : Int) ≤ ix (lx nx i) j
        · ((try simp only [andThen, endBlock, if_true]); repeat (first | with_reducible refine W.seq ?_ | with_reducible refine W.block ?_ | (refine W.region (by rfl) ?_; (repeat (first | (refine OpsW.step rfl ?_; simp [opV, e1, e3, e4, e5, box_load hb.get Tryz.sh22, Fl.len hf (P := Tryz.prog) Tryz.underlying22, Fl.idx hf Tryz.underlying22 Tryz.sz39 hlt, Fl.load hf Tryz.sh36 hlt, IntSl.idx hn Tryz.underlying36 Tryz.sz3 hjt, IntSl.load hn Tryz.sh3 hjt, d1, d2]; done) | (refine OpsW.step rfl ?_; simp [opV, e1, e3, e4, e5, box_load hb.get Tryz.sh22, Fl.len hf (P := Tryz.prog) Tryz.underlying22, Fl.idx hf Tryz.underlying22 Tryz.sz39 hlt, Fl.load hf Tryz.sh36 hlt, IntSl.idx hn Tryz.underlying36 Tryz.sz3 hjt, IntSl.load hn Tryz.sh3 hjt, d1, d2]) | (refine OpsW.step ?_ ?_; (focus (simp [wantedA, e1, e3, e4, e5, box_load hb.get Tryz.sh22, Fl.len hf (P := Tryz.prog) Tryz.underlying22, Fl.idx hf Tryz.underlying22 Tryz.sz39 hlt, Fl.load hf Tryz.sh36 hlt, IntSl.idx hn Tryz.underlying36 Tryz.sz3 hjt, IntSl.load hn Tryz.sh3 hjt, d1, d2]; done)); simp [opV, e1, e3, e4, e5, box_load hb.get Tryz.sh22, Fl.len hf (P := Tryz.prog) Tryz.underlying22, Fl.idx hf Tryz.underlying22 Tryz.sz39 hlt, Fl.load hf Tryz.sh36 hlt, IntSl.idx hn Tryz.underlying36 Tryz.sz3 hjt, IntSl.load hn Tryz.sh3 hjt, d1, d2]) | (refine OpsW.un ?_ ?_; (focus (simp [wantedA, e1, e3, e4, e5, box_load hb.get Tryz.sh22, Fl.len hf (P := Tryz.prog) Tryz.underlying22, Fl.idx hf Tryz.underlying22 Tryz.sz39 hlt, Fl.load hf Tryz.sh36 hlt, IntSl.idx hn Tryz.underlying36 Tryz.sz3 hjt, IntSl.load hn Tryz.sh3 hjt, d1, d2]; done))))); (refine OpsW.nil ?_; try simp only [andThen, endBlock]))))
          (refine W.cond true ?_ ?_; (focus (simp; done)); simp only [if_true])
          ((try simp only [andThen, endBlock, if_true]); repeat (first | with_reducible refine W.seq ?_ | with_reducible refine W.block ?_ | (refine W.region (by rfl) ?_; (repeat (first | (refine OpsW.step rfl ?_; simp [opV]; done) | (refine OpsW.step rfl ?_; simp [opV]) | (refine OpsW.step ?_ ?_; (focus (simp [wantedA]; done)); simp [opV]) | (refine OpsW.un ?_ ?_; (focus (simp [wantedA]; done))))); (refine OpsW.nil ?_; try simp only [andThen, endBlock]))))
          (refine W.ret ?_; try simp only [andThen, endBlock])
          exact ⟨by simp, rfl, fun hq => by have := (hq _ (ix_mem hjt)).2; omega⟩
        ((try simp only [andThen, endBlock, if_true]); repeat (first | with_reducible refine W.seq ?_ | with_reducible refine W.block ?_ | (refine W.region (by rfl) ?_; (repeat (first | (refine OpsW.step rfl ?_; simp [opV, e1, e3, e4, e5, box_load hb.get Tryz.sh22, Fl.len hf (P := Tryz.prog) Tryz.underlying22, Fl.idx hf Tryz.underlying22 Tryz.sz39 hlt, Fl.load hf Tryz.sh36 hlt, IntSl.idx hn Tryz.underlying36 Tryz.sz3 hjt, IntSl.load hn Tryz.sh3 hjt, d1, d2]; done) | (refine OpsW.step rfl ?_; simp [opV, e1, e3, e4, e5, box_load hb.get Tryz.sh22, Fl.len hf (P := Tryz.prog) Tryz.underlying22, Fl.idx hf Tryz.underlying22 Tryz.sz39 hlt, Fl.load hf Tryz.sh36 hlt, IntSl.idx hn Tryz.underlying36 Tryz.sz3 hjt, IntSl.load hn Tryz.sh3 hjt, d1, d2]) | (refine OpsW.step ?_ ?_; (focus (simp [wantedA, e1, e3, e4, e5, box_load hb.get Tryz.sh22, Fl.len hf (P := Tryz.prog) Tryz.underlying22, Fl.idx hf Tryz.underlying22 Tryz.sz39 hlt, Fl.load hf Tryz.sh36 hlt, IntSl.idx hn Tryz.underlying36 Tryz.sz3 hjt, IntSl.load hn Tryz.sh3 hjt, d1, d2]; done)); simp [opV, e1, e3, e4, e5, box_load hb.get Tryz.sh22, Fl.len hf (P := Tryz.prog) Tryz.underlying22, Fl.idx hf Tryz.underlying22 Tryz.sz39 hlt, Fl.load hf Tryz.sh36 hlt, IntSl.idx hn Tryz.underlying36 Tryz.sz3 hjt, IntSl.load hn Tryz.sh3 hjt, d1, d2]) | (refine OpsW.un ?_ ?_; (focus (simp [wantedA, e1, e3, e4, e5, box_load hb.get Tryz.sh22, Fl.len hf (P := Tryz.prog) Tryz.underlying22, Fl.idx hf Tryz.underlying22 Tryz.sz39 hlt, Fl.load hf Tryz.sh36 hlt, IntSl.idx hn Tryz.underlying36 Tryz.sz3 hjt, IntSl.load hn Tryz.sh3 hjt, d1, d2]; done))))); (refine OpsW.nil ?_; try simp only [andThen, endBlock]))))
        (refine W.cond false ?_ ?_; (focus (simp; done)); simp only [Bool.false_eq_true, if_false])
        (refine W.skip ?_; try simp only [andThen, endBlock])
        ((try simp only [andThen, endBlock, if_true]); repeat (first | with_reducible refine W.seq ?_ | with_reducible refine W.block ?_ | (refine W.region (by rfl) ?_; (repeat (first | (refine OpsW.step rfl ?_; simp [opV, e5]; done) | (refine OpsW.step rfl ?_; simp [opV, e5]) | (refine OpsW.step ?_ ?_; (focus (simp [wantedA, e5]; done)); simp [opV, e5]) | (refine OpsW.un ?_ ?_; (focus (simp [wantedA, e5]; done))))); (refine OpsW.nil ?_; try simp only [andThen, endBlock]))))
        exact ⟨_, by omega, j + 1, rfl, by omega, by simp [e1], by simp [e3], by simp [e4], by simp [wrap_succ hjt hn.2], rfl, take_succ_mem hjt hs2 (by omega)⟩
      · (refine W.cond false ?_ ?_; (focus (simp [hjt]; done)); simp only [Bool.false_eq_true, if_false])
        (refine W.exit ?_; try simp only [andThen, endBlock, if_true])
        rw [List.take_of_length_le (by omega)] at hs2
        exact ⟨rfl, by simp [e1], by simp [e3], by simp [e4], rfl, hs2⟩
    · intro x e' A2 hQ
      cases x with
      | normal => exact hQ.elim
      | ret =>
        obtain ⟨q2, rfl, q3⟩ := hQ
        simp only [andThen, endBlock]
        refine ⟨.inr rfl, [.bool false], by simp [Tryz.f35, resultsA, resultA, q2], ?_⟩
        exact ⟨.no fun hS => q3 (hS.2.2.2 i hlt), hx⟩
      | exit m =>
        obtain ⟨rfl, q1, q3, q4, rfl, q5⟩ := hQ
        ((try simp only [andThen, endBlock, if_true]); repeat (first | with_reducible refine W.seq ?_ | with_reducible refine W.block ?_ | (refine W.region (by rfl) ?_; (repeat (first | (refine OpsW.step rfl ?_; simp [opV, q4]; done) | (refine OpsW.step rfl ?_; simp [opV, q4]) | (refine OpsW.step ?_ ?_; (focus (simp [wantedA, q4]; done)); simp [opV, q4]) | (refine OpsW.un ?_ ?_; (focus (simp [wantedA, q4]; done))))); (refine OpsW.nil ?_; try simp only [andThen, endBlock]))))
        exact ⟨_, by omega, i + 1, rfl, by omega, by simp [q1], by simp [q3], by simp [wrap_succ hlt h.le], rfl, fun j hj => by
          by_cases hji : j = i
          · subst hji; exact q5
          · exact hs j (by omega)⟩
  · (refine W.cond false ?_ ?_; (focus (simp [hlt]; done)); simp only [Bool.false_eq_true, if_false])
    (refine W.exit ?_; try simp only [andThen, endBlock, if_true])
    ((try simp only [andThen, endBlock, if_true]); repeat (first | with_reducible refine W.seq ?_ | with_reducible refine W.block ?_ | (refine W.region (by rfl) ?_; (repeat (first | (refine OpsW.step rfl ?_; simp [opV]; done) | (refine OpsW.step rfl ?_; simp [opV]) | (refine OpsW.step ?_ ?_; (focus (simp [wantedA]; done)); simp [opV]) | (refine OpsW.un ?_ ?_; (focus (simp [wantedA]; done))))); (refine OpsW.nil ?_; try simp only [andThen, endBlock]))))
    (refine W.ret ?_; try simp only [andThen, endBlock])
    refine ⟨.inr rfl, [.bool true], by simp [Tryz.f35, resultsA, resultA], ?_⟩
    exact ⟨.yes ⟨by omega, by omega, by omega, fun j hj => hs j (by omega)⟩, hx⟩
theorem valid_spec (A : AH) (p : AV) (nx : List (List Int)) (cs : List AV) (h : Fl A p nx cs) : FnW Tryz.prog 10 [.agg [p]] A fun u A' => IsB u (ValidF nx) ∧ Ext A A' := by
  refine FnW.body Tryz.func10 (by decide) rfl Tryz.ntmps10 ?_
  generalize hE : bindArgs _ 0 _ = E
  have a0 := (congrArg (fun e => En.get e 0) hE).symm
  simp [bindArgs, kept, En.get_bind] at a0
  clear hE
  ((try simp only [andThen, endBlock, if_true]); repeat (first | with_reducible refine W.seq ?_ | with_reducible refine W.block ?_ | (refine W.region (by rfl) ?_; (repeat (first | (refine OpsW.step rfl ?_; simp [opV, a0]; done) | (refine OpsW.step rfl ?_; simp [opV, a0]) | (refine OpsW.step ?_ ?_; (focus (simp [wantedA, a0]; done)); simp [opV, a0]) | (refine OpsW.un ?_ ?_; (focus (simp [wantedA, a0]; done))))); (refine OpsW.nil ?_; try simp only [andThen, endBlock]))))
  have hb := Box.new A p
  have hx := Ext.box A (.cells [p])
  have hf := h.ext hx
  generalize A.push (.cells [p]) = B at *
  (refine W.region (by rfl) ?_; (repeat (first | (refine OpsW.step rfl ?_; simp [opV, box_whole hb.get Tryz.sh24]; done) | (refine OpsW.step rfl ?_; simp [opV, box_whole hb.get Tryz.sh24]) | (refine OpsW.step ?_ ?_; (focus (simp [wantedA, box_whole hb.get Tryz.sh24]; done)); simp [opV, box_whole hb.get Tryz.sh24]) | (refine OpsW.un ?_ ?_; (focus (simp [wantedA, box_whole hb.get Tryz.sh24]; done))))))
  (refine FnW.mono (valid17_spec B p nx cs hf) ?_; rintro u A2 ⟨g1, g2⟩)
  (repeat (first | (refine OpsW.step rfl ?_; simp [opV]; done) | (refine OpsW.step rfl ?_; simp [opV]) | (refine OpsW.step ?_ ?_; (focus (simp [wantedA]; done)); simp [opV]) | (refine OpsW.un ?_ ?_; (focus (simp [wantedA]; done)))))
  (refine OpsW.nil ?_; try simp only [andThen, endBlock])
  (refine W.ret ?_; try simp only [andThen, endBlock])
  refine ⟨.inr rfl, [u], by simp [Tryz.f10, resultsA, resultA], ?_⟩
  exact ⟨g1, hx.trans g2⟩
end Go.Proofs

/-! Sets, Lists of the reference. -/
namespace Go.Proofs
open Go Go.Ab
variable [LoopTab]
def SetsL (ls : List (List Int)) (n : Nat) : Prop := ls.length = n ∧ ∀ i, i < ls.length → IsS (lx ls i)
def SetsInv (A0 : AH) (β : Nat) (v : AV) (ls : List (List Int)) (k : Nat) (e : En) (A : AH) : Prop := ∃ i : Nat, k = ls.length - i ∧ i ≤ ls.length ∧ e.get 2 = .ptr β 0 ∧ e.get 1 = v ∧ e.get 5 = IV i ∧ A = A0 ∧ ∀ j, j < i → IsS (lx ls j)
theorem sets_spec (A : AH) (p : AV) (nx : List (List Int)) (cs : List AV) (v : AV) (ls : List (List Int)) (vs : List AV) (h : Fl A p nx cs) (hl : LL A v ls vs) : FnW Tryz.prog 11 [.agg [p], v] A fun u A' => IsB u (SetsL ls nx.length) ∧ Ext A A' := by
  refine FnW.body Tryz.func11 (by decide) rfl Tryz.ntmps11 ?_
  generalize hE : bindArgs _ 0 _ = E
  have a0 := (congrArg (fun e => En.get e 0) hE).symm
  simp [bindArgs, kept, En.get_bind] at a0
  have a1 := (congrArg (fun e => En.get e 1) hE).symm
  simp [bindArgs, kept, En.get_bind] at a1
  clear hE
  ((try simp only [andThen, endBlock, if_true]); repeat (first | with_reducible refine W.seq ?_ | with_reducible refine W.block ?_ | (refine W.region (by rfl) ?_; (repeat (first | (refine OpsW.step rfl ?_; simp [opV, a0]; done) | (refine OpsW.step rfl ?_; simp [opV, a0]) | (refine OpsW.step ?_ ?_; (focus (simp [wantedA, a0]; done)); simp [opV, a0]) | (refine OpsW.un ?_ ?_; (focus (simp [wantedA, a0]; done))))); (refine OpsW.nil ?_; try simp only [andThen, endBlock]))))
  have hb := Box.new A p
  have hx := Ext.box A (.cells [p])
  have hf := h.ext hx
  have hl' := hl.ext hx
  generalize A.push (.cells [p]) = B at *
  refine W.loop ?_
  refine LW.induct (SetsInv B A.next v ls) ?_ _ _ B ⟨0, rfl, Nat.zero_le _, by simp, by simp [a1], by simp, rfl, by simp⟩
  rintro k e A1 ⟨i, rfl, hi, e2, e1, e5, rfl, hs⟩
  ((try simp only [andThen, endBlock, if_true]); repeat (first | with_reducible refine W.seq ?_ | with_reducible refine W.block ?_ | (refine W.region (by rfl) ?_; (repeat (first | (refine OpsW.step rfl ?_; simp [opV, e1, e5, LL.len hl' (P := Tryz.prog) Tryz.underlying25]; done) | (refine OpsW.step rfl ?_; simp [opV, e1, e5, LL.len hl' (P := Tryz.prog) Tryz.underlying25]) | (refine OpsW.step ?_ ?_; (focus (simp [wantedA, e1, e5, LL.len hl' (P := Tryz.prog) Tryz.underlying25]; done)); simp [opV, e1, e5, LL.len hl' (P := Tryz.prog) Tryz.underlying25]) | (refine OpsW.un ?_ ?_; (focus (simp [wantedA, e1, e5, LL.len hl' (P := Tryz.prog) Tryz.underlying25]; done))))); (refine OpsW.nil ?_; try simp only [andThen, endBlock]))))
  by_cases hlt : i < ls.length
  · (refine W.cond true ?_ ?_; (focus (simp [hlt]; done)); simp only [if_true])
    (refine W.skip ?_; try simp only [andThen, endBlock])
    ((try simp only [andThen, endBlock, if_true]); repeat (first | with_reducible refine W.seq ?_ | with_reducible refine W.block ?_ | (refine W.region (by rfl) ?_; (repeat (first | (refine OpsW.step rfl ?_; simp [opV]; done) | (refine OpsW.step rfl ?_; simp [opV]) | (refine OpsW.step ?_ ?_; (focus (simp [wantedA]; done)); simp [opV]) | (refine OpsW.un ?_ ?_; (focus (simp [wantedA]; done))))); (refine OpsW.nil ?_; try simp only [andThen, endBlock]))))
    (refine W.region (by rfl) ?_; (repeat (first | (refine OpsW.step rfl ?_; simp [opV, e1, e5, LL.idx hl' Tryz.underlying25 Tryz.sz36 hlt, LL.load hl' Tryz.sh36 hlt]; done) | (refine OpsW.step rfl ?_; simp [opV, e1, e5, LL.idx hl' Tryz.underlying25 Tryz.sz36 hlt, LL.load hl' Tryz.sh36 hlt]) | (refine OpsW.step ?_ ?_; (focus (simp [wantedA, e1, e5, LL.idx hl' Tryz.underlying25 Tryz.sz36 hlt, LL.load hl' Tryz.sh36 hlt]; done)); simp [opV, e1, e5, LL.idx hl' Tryz.underlying25 Tryz.sz36 hlt, LL.load hl' Tryz.sh36 hlt]) | (refine OpsW.un ?_ ?_; (focus (simp [wantedA, e1, e5, LL.idx hl' Tryz.underlying25 Tryz.sz36 hlt, LL.load hl' Tryz.sh36 hlt]; done))))))
    (refine FnW.mono (isset_spec A1 (vx vs i) (lx ls i) (hl'.el i hlt)) ?_; rintro _ A2 ⟨⟨t, rfl, ht⟩, hA⟩)
    subst hA
    (repeat (first | (refine OpsW.step rfl ?_; simp [opV]; done) | (refine OpsW.step rfl ?_; simp [opV]) | (refine OpsW.step ?_ ?_; (focus (simp [wantedA]; done)); simp [opV]) | (refine OpsW.un ?_ ?_; (focus (simp [wantedA]; done)))))
    (refine OpsW.nil ?_; try simp only [andThen, endBlock])
    cases t with
    | false =>
      (refine W.cond true ?_ ?_; (focus (simp; done)); simp only [if_true])
      ((try simp only [andThen, endBlock, if_true]); repeat (first | with_reducible refine W.seq ?_ | with_reducible refine W.block ?_ | (refine W.region (by rfl) ?_; (repeat (first | (refine OpsW.step rfl ?_; simp [opV]; done) | (refine OpsW.step rfl ?_; simp [opV]) | (refine OpsW.step ?_ ?_; (focus (simp [wantedA]; done)); simp [opV]) | (refine OpsW.un ?_ ?_; (focus (simp [wantedA]; done))))); (refine OpsW.nil ?_; try simp only [andThen, endBlock]))))
      (refine W.ret ?_; try simp only [andThen, endBlock])
      refine ⟨.inr rfl, [.bool false], by simp [Tryz.f11, resultsA, resultA], ?_⟩
      exact ⟨.no fun hS => (Bool.noConfusion (ht.2 (hS.2 i hlt))), hx⟩
    | true =>
      (refine W.cond false ?_ ?_; (focus (simp; done)); simp only [Bool.false_eq_true, if_false])
      (refine W.skip ?_; try simp only [andThen, endBlock])
      ((try simp only [andThen, endBlock, if_true]); repeat (first | with_reducible refine W.seq ?_ | with_reducible refine W.block ?_ | (refine W.region (by rfl) ?_; (repeat (first | (refine OpsW.step rfl ?_; simp [opV, e5]; done) | (refine OpsW.step rfl ?_; simp [opV, e5]) | (refine OpsW.step ?_ ?_; (focus (simp [wantedA, e5]; done)); simp [opV, e5]) | (refine OpsW.un ?_ ?_; (focus (simp [wantedA, e5]; done))))); (refine OpsW.nil ?_; try simp only [andThen, endBlock]))))
      exact ⟨_, by omega, i + 1, rfl, by omega, by simp [e2], by simp [e1], by simp [wrap_succ hlt hl.le], rfl, fun j hj => by
        by_cases hji : j = i
        · subst hji; exact ht.1 rfl
        · exact hs j (by omega)⟩
  · (refine W.cond false ?_ ?_; (focus (simp [hlt]; done)); simp only [Bool.false_eq_true, if_false])
    (refine W.exit ?_; try simp only [andThen, endBlock, if_true])
    by_cases hm : (ls.length : Int) = nx.length
    · ((try simp only [andThen, endBlock, if_true]); repeat (first | with_reducible refine W.seq ?_ | with_reducible refine W.block ?_ | (refine W.region (by rfl) ?_; (repeat (first | (refine OpsW.step rfl ?_; simp [opV, e1, e2, LL.len hl' (P := Tryz.prog) Tryz.underlying25, box_load hb.get Tryz.sh22, Fl.len hf (P := Tryz.prog) Tryz.underlying22, hm]; done) | (refine OpsW.step rfl ?_; simp [opV, e1, e2, LL.len hl' (P := Tryz.prog) Tryz.underlying25, box_load hb.get Tryz.sh22, Fl.len hf (P := Tryz.prog) Tryz.underlying22, hm]) | (refine OpsW.step ?_ ?_; (focus (simp [wantedA, e1, e2, LL.len hl' (P := Tryz.prog) Tryz.underlying25, box_load hb.get Tryz.sh22, Fl.len hf (P := Tryz.prog) Tryz.underlying22, hm]; done)); simp [opV, e1, e2, LL.len hl' (P := Tryz.prog) Tryz.underlying25, box_load hb.get Tryz.sh22, Fl.len hf (P := Tryz.prog) Tryz.underlying22, hm]) | (refine OpsW.un ?_ ?_; (focus (simp [wantedA, e1, e2, LL.len hl' (P := Tryz.prog) Tryz.underlying25, box_load hb.get Tryz.sh22, Fl.len hf (P := Tryz.prog) Tryz.underlying22, hm]; done))))); (refine OpsW.nil ?_; try simp only [andThen, endBlock]))))
      (refine W.ret ?_; try simp only [andThen, endBlock])
      refine ⟨.inr rfl, [.bool true], by simp [Tryz.f11, resultsA, resultA], ?_⟩
      exact ⟨.yes ⟨by omega, fun j hj => hs j (by omega)⟩, hx⟩
    · ((try simp only [andThen, endBlock, if_true]); repeat (first | with_reducible refine W.seq ?_ | with_reducible refine W.block ?_ | (refine W.region (by rfl) ?_; (repeat (first | (refine OpsW.step rfl ?_; simp [opV, e1, e2, LL.len hl' (P := Tryz.prog) Tryz.underlying25, box_load hb.get Tryz.sh22, Fl.len hf (P := Tryz.prog) Tryz.underlying22, hm]; done) | (refine OpsW.step rfl ?_; simp [opV, e1, e2, LL.len hl' (P := Tryz.prog) Tryz.underlying25, box_load hb.get Tryz.sh22, Fl.len hf (P := Tryz.prog) Tryz.underlying22, hm]) | (refine OpsW.step ?_ ?_; (focus (simp [wantedA, e1, e2, LL.len hl' (P := Tryz.prog) Tryz.underlying25, box_load hb.get Tryz.sh22, Fl.len hf (P := Tryz.prog) Tryz.underlying22, hm]; done)); simp [opV, e1, e2, LL.len hl' (P := Tryz.prog) Tryz.underlying25, box_load hb.get Tryz.sh22, Fl.len hf (P := Tryz.prog) Tryz.underlying22, hm]) | (refine OpsW.un ?_ ?_; (focus (simp [wantedA, e1, e2, LL.len hl' (P := Tryz.prog) Tryz.underlying25, box_load hb.get Tryz.sh22, Fl.len hf (P := Tryz.prog) Tryz.underlying22, hm]; done))))); (refine OpsW.nil ?_; try simp only [andThen, endBlock]))))
      (refine W.ret ?_; try simp only [andThen, endBlock])
      refine ⟨.inr rfl, [.bool false], by simp [Tryz.f11, resultsA, resultA], ?_⟩
      exact ⟨.no fun hS => hm (by rw [hS.1]), hx⟩

/-! Lists -/
theorem lists_ext {ls ms : List (List Int)} (hl : ls.length = ms.length) (h : ∀ i, i < ls.length → lx ls i = lx ms i) : ls = ms := by
  refine List.ext_getElem hl fun i h1 h2 => ?_
  have := h i h1
  simpa [lx, h1, h2] using this
theorem ints_ext {l m : List Int} (hl : l.length = m.length) (h : ∀ i, i < l.length → ix l i = ix m i) : l = m := by
  refine List.ext_getElem hl fun i h1 h2 => ?_
  have := h i h1
  rwa [ix_eq h1, ix_eq h2] at this
def LsInv (A0 : AH) (v w : AV) (ls ms : List (List Int)) (k : Nat) (e : En) (A : AH) : Prop := ∃ i : Nat, k = ls.length - i ∧ i ≤ ls.length ∧ e.get 0 = v ∧ e.get 1 = w ∧ e.get 5 = IV i ∧ A = A0 ∧ ∀ j, j < i → lx ls j = lx ms j
def LsInv2 (A0 : AH) (v w : AV) (ls ms : List (List Int)) (i : Nat) (k : Nat) (e : En) (A : AH) : Prop := ∃ j : Nat, k = (lx ls i).length - j ∧ j ≤ (lx ls i).length ∧ e.get 0 = v ∧ e.get 1 = w ∧ e.get 5 = IV i ∧ e.get 6 = IV j ∧ A = A0 ∧ ∀ m, m < j → ix (lx ls i) m = ix (lx ms i) m
def LsOut (A0 : AH) (v w : AV) (ls ms : List (List Int)) (i : Nat) (x : Ex) (e : En) (A : AH) : Prop :=
  match x with
  | .exit j => j = 2 ∧ e.get 0 = v ∧ e.get 1 = w ∧ e.get 5 = IV i ∧ A = A0 ∧ lx ls i = lx ms i
  | .ret => e.get 4 = .bool false ∧ A = A0 ∧ ¬ lx ls i = lx ms i
  | .normal => False
theorem lists17_spec (A : AH) (v w : AV) (ls ms : List (List Int)) (vs ws : List AV) (h : LL A v ls vs) (k : LL A w ms ws) : FnW Tryz.prog 34 [v, w] A fun u A' => IsB u (ls = ms) ∧ A = A' := by
  refine FnW.body Tryz.func34 (by decide) rfl Tryz.ntmps34 ?_
  generalize hE : bindArgs _ 0 _ = E
  have a0 := (congrArg (fun e => En.get e 0) hE).symm
  simp [bindArgs, kept, En.get_bind] at a0
  have a1 := (congrArg (fun e => En.get e 1) hE).symm
  simp [bindArgs, kept, En.get_bind] at a1
  clear hE
  refine W.seq ?_
  (refine W.region (by rfl) ?_; (repeat (first | (refine OpsW.step rfl ?_; simp [opV]; done) | (refine OpsW.step rfl ?_; simp [opV]) | (refine OpsW.step ?_ ?_; (focus (simp [wantedA]; done)); simp [opV]) | (refine OpsW.un ?_ ?_; (focus (simp [wantedA]; done))))); (refine OpsW.nil ?_; try simp only [andThen, endBlock]))
  by_cases hlen : (ls.length : Int) = ms.length
  rotate_left
  · ((try simp only [andThen, endBlock, if_true]); repeat (first | with_reducible refine W.seq ?_ | with_reducible refine W.block ?_ | (refine W.region (by rfl) ?_; (repeat (first | (refine OpsW.step rfl ?_; simp [opV, a0, a1, LL.len h (P := Tryz.prog) Tryz.underlying25, LL.len k (P := Tryz.prog) Tryz.underlying25, hlen]; done) | (refine OpsW.step rfl ?_; simp [opV, a0, a1, LL.len h (P := Tryz.prog) Tryz.underlying25, LL.len k (P := Tryz.prog) Tryz.underlying25, hlen]) | (refine OpsW.step ?_ ?_; (focus (simp [wantedA, a0, a1, LL.len h (P := Tryz.prog) Tryz.underlying25, LL.len k (P := Tryz.prog) Tryz.underlying25, hlen]; done)); simp [opV, a0, a1, LL.len h (P := Tryz.prog) Tryz.underlying25, LL.len k (P := Tryz.prog) Tryz.underlying25, hlen]) | (refine OpsW.un ?_ ?_; (focus (simp [wantedA, a0, a1, LL.len h (P := Tryz.prog) Tryz.underlying25, LL.len k (P := Tryz.prog) Tryz.underlying25, hlen]; done))))); (refine OpsW.nil ?_; try simp only [andThen, endBlock]))))
    (refine W.cond true ?_ ?_; (focus (simp [hlen]; done)); simp only [if_true])
    ((try simp only [andThen, endBlock, if_true]); repeat (first | with_reducible refine W.seq ?_ | with_reducible refine W.block ?_ | (refine W.region (by rfl) ?_; (repeat (first | (refine OpsW.step rfl ?_; simp [opV]; done) | (refine OpsW.step rfl ?_; simp [opV]) | (refine OpsW.step ?_ ?_; (focus (simp [wantedA]; done)); simp [opV]) | (refine OpsW.un ?_ ?_; (focus (simp [wantedA]; done))))); (refine OpsW.nil ?_; try simp only [andThen, endBlock]))))
    (refine W.ret ?_; try simp only [andThen, endBlock])
    refine ⟨.inr rfl, [.bool false], by simp [Tryz.f34, resultsA, resultA], ?_⟩
    exact ⟨.no fun hq => hlen (by rw [hq]), rfl⟩
  ((try simp only [andThen, endBlock, if_true]); repeat (first | with_reducible refine W.seq ?_ | with_reducible refine W.block ?_ | (refine W.region (by rfl) ?_; (repeat (first | (refine OpsW.step rfl ?_; simp [opV, a0, a1, LL.len h (P := Tryz.prog) Tryz.underlying25, LL.len k (P := Tryz.prog) Tryz.underlying25]; done) | (refine OpsW.step rfl ?_; simp [opV, a0, a1, LL.len h (P := Tryz.prog) Tryz.underlying25, LL.len k (P := Tryz.prog) Tryz.underlying25]) | (refine OpsW.step ?_ ?_; (focus (simp [wantedA, a0, a1, LL.len h (P := Tryz.prog) Tryz.underlying25, LL.len k (P := Tryz.prog) Tryz.underlying25]; done)); simp [opV, a0, a1, LL.len h (P := Tryz.prog) Tryz.underlying25, LL.len k (P := Tryz.prog) Tryz.underlying25]) | (refine OpsW.un ?_ ?_; (focus (simp [wantedA, a0, a1, LL.len h (P := Tryz.prog) Tryz.underlying25, LL.len k (P := Tryz.prog) Tryz.underlying25]; done))))); (refine OpsW.nil ?_; try simp only [andThen, endBlock]))))
  (refine W.cond false ?_ ?_; (focus (simp [hlen]; done)); simp only [Bool.false_eq_true, if_false])
  (refine W.skip ?_; try simp only [andThen, endBlock])
  ((try simp only [andThen, endBlock, if_true]); repeat (first | with_reducible refine W.seq ?_ | with_reducible refine W.block ?_ | (refine W.region (by rfl) ?_; (repeat (first | (refine OpsW.step rfl ?_; simp [opV]; done) | (refine OpsW.step rfl ?_; simp [opV]) | (refine OpsW.step ?_ ?_; (focus (simp [wantedA]; done)); simp [opV]) | (refine OpsW.un ?_ ?_; (focus (simp [wantedA]; done))))); (refine OpsW.nil ?_; try simp only [andThen, endBlock]))))
  refine W.loop ?_
  refine LW.induct (LsInv A v w ls ms) ?_ _ _ A ⟨0, rfl, Nat.zero_le _, by simp [a0], by simp [a1], by simp, rfl, by simp⟩
  rintro n e A1 ⟨i, rfl, hi, e0, e1, e5, rfl, hs⟩
  ((try simp only [andThen, endBlock, if_true]); repeat (first | with_reducible refine W.seq ?_ | with_reducible refine W.block ?_ | (refine W.region (by rfl) ?_; (repeat (first | (refine OpsW.step rfl ?_; simp [opV, e0, e5, LL.len h (P := Tryz.prog) Tryz.underlying25]; done) | (refine OpsW.step rfl ?_; simp [opV, e0, e5, LL.len h (P := Tryz.prog) Tryz.underlying25]) | (refine OpsW.step ?_ ?_; (focus (simp [wantedA, e0, e5, LL.len h (P := Tryz.prog) Tryz.underlying25]; done)); simp [opV, e0, e5, LL.len h (P := Tryz.prog) Tryz.underlying25]) | (refine OpsW.un ?_ ?_; (focus (simp [wantedA, e0, e5, LL.len h (P := Tryz.prog) Tryz.underlying25]; done))))); (refine OpsW.nil ?_; try simp only [andThen, endBlock]))))
  by_cases hlt : i < ls.length
  · have hlt2 : i < ms.length := by omega
    have h1 := h.el i hlt
    have k1 := k.el i hlt2
    (refine W.cond true ?_ ?_; (focus (simp [hlt]; done)); simp only [if_true])
    (refine W.skip ?_; try simp only [andThen, endBlock])
    ((try simp only [andThen, endBlock, if_true]); repeat (first | with_reducible refine W.seq ?_ | with_reducible refine W.block ?_ | (refine W.region (by rfl) ?_; (repeat (first | (refine OpsW.step rfl ?_; simp [opV]; done) | (refine OpsW.step rfl ?_; simp [opV]) | (refine OpsW.step ?_ ?_; (focus (simp [wantedA]; done)); simp [opV]) | (refine OpsW.un ?_ ?_; (focus (simp [wantedA]; done))))); (refine OpsW.nil ?_; try simp only [andThen, endBlock]))))
    by_cases hq : ((lx ls i).length : Int) = (lx ms i).length
    rotate_left
    · (refine W.drawnS mixedP self0_ok [(0, 0), (1, 0), (2, 0), (3, 0), (4, 0), (5, 0), (6, 0), (7, 0), (8, 0), (9, 0), (10, 0)] (by rfl) (by kernel_rfl) ?_; (repeat (first | (refine RSW.step rfl rfl ?_; simp [stepV, cls, e0, e1, e5, LL.idx h Tryz.underlying25 Tryz.sz36 hlt, LL.load h Tryz.sh36 hlt, LL.idx k Tryz.underlying25 Tryz.sz36 hlt2, LL.load k Tryz.sh36 hlt2, IntSl.len h1 (P := Tryz.prog) Tryz.underlying36, IntSl.len k1 (P := Tryz.prog) Tryz.underlying36, hq]) | (refine RSW.step rfl ?_ ?_; (focus (simp [wantedA, e0, e1, e5, LL.idx h Tryz.underlying25 Tryz.sz36 hlt, LL.load h Tryz.sh36 hlt, LL.idx k Tryz.underlying25 Tryz.sz36 hlt2, LL.load k Tryz.sh36 hlt2, IntSl.len h1 (P := Tryz.prog) Tryz.underlying36, IntSl.len k1 (P := Tryz.prog) Tryz.underlying36, hq]; done)); simp [stepV, cls, e0, e1, e5, LL.idx h Tryz.underlying25 Tryz.sz36 hlt, LL.load h Tryz.sh36 hlt, LL.idx k Tryz.underlying25 Tryz.sz36 hlt2, LL.load k Tryz.sh36 hlt2, IntSl.len h1 (P := Tryz.prog) Tryz.underlying36, IntSl.len k1 (P := Tryz.prog) Tryz.underlying36, hq]) | (refine RSW.un rfl ?_ ?_ ?_; (focus (simp [wantedA, e0, e1, e5, LL.idx h Tryz.underlying25 Tryz.sz36 hlt, LL.load h Tryz.sh36 hlt, LL.idx k Tryz.underlying25 Tryz.sz36 hlt2, LL.load k Tryz.sh36 hlt2, IntSl.len h1 (P := Tryz.prog) Tryz.underlying36, IntSl.len k1 (P := Tryz.prog) Tryz.underlying36, hq]; done)); (focus (simp [cls]; done))))); refine RSW.nil ?_; try simp only [andThen, endBlock])
      (refine W.cond true ?_ ?_; (focus (simp; done)); simp only [if_true])
      ((try simp only [andThen, endBlock, if_true]); repeat (first | with_reducible refine W.seq ?_ | with_reducible refine W.block ?_ | (refine W.region (by rfl) ?_; (repeat (first | (refine OpsW.step rfl ?_; simp [opV]; done) | (refine OpsW.step rfl ?_; simp [opV]) | (refine OpsW.step ?_ ?_; (focus (simp [wantedA]; done)); simp [opV]) | (refine OpsW.un ?_ ?_; (focus (simp [wantedA]; done))))); (refine OpsW.nil ?_; try simp only [andThen, endBlock]))))
      (refine W.ret ?_; try simp only [andThen, endBlock])
      refine ⟨.inr rfl, [.bool false], by simp [Tryz.f34, resultsA, resultA], ?_⟩
      exact ⟨.no fun hh => hq (by rw [hh]), rfl⟩
    (refine W.drawnS mixedP self0_ok [(0, 0), (1, 0), (2, 0), (3, 0), (4, 0), (5, 0), (6, 0), (7, 0), (8, 0), (9, 0), (10, 0)] (by rfl) (by kernel_rfl) ?_; (repeat (first | (refine RSW.step rfl rfl ?_; simp [stepV, cls, e0, e1, e5, LL.idx h Tryz.underlying25 Tryz.sz36 hlt, LL.load h Tryz.sh36 hlt, LL.idx k Tryz.underlying25 Tryz.sz36 hlt2, LL.load k Tryz.sh36 hlt2, IntSl.len h1 (P := Tryz.prog) Tryz.underlying36, IntSl.len k1 (P := Tryz.prog) Tryz.underlying36]) | (refine RSW.step rfl ?_ ?_; (focus (simp [wantedA, e0, e1, e5, LL.idx h Tryz.underlying25 Tryz.sz36 hlt, LL.load h Tryz.sh36 hlt, LL.idx k Tryz.underlying25 Tryz.sz36 hlt2, LL.load k Tryz.sh36 hlt2, IntSl.len h1 (P := Tryz.prog) Tryz.underlying36, IntSl.len k1 (P := Tryz.prog) Tryz.underlying36]; done)); simp [stepV, cls, e0, e1, e5, LL.idx h Tryz.underlying25 Tryz.sz36 hlt, LL.load h Tryz.sh36 hlt, LL.idx k Tryz.underlying25 Tryz.sz36 hlt2, LL.load k Tryz.sh36 hlt2, IntSl.len h1 (P := Tryz.prog) Tryz.underlying36, IntSl.len k1 (P := Tryz.prog) Tryz.underlying36]) | (refine RSW.un rfl ?_ ?_ ?_; (focus (simp [wantedA, e0, e1, e5, LL.idx h Tryz.underlying25 Tryz.sz36 hlt, LL.load h Tryz.sh36 hlt, LL.idx k Tryz.underlying25 Tryz.sz36 hlt2, LL.load k Tryz.sh36 hlt2, IntSl.len h1 (P := Tryz.prog) Tryz.underlying36, IntSl.len k1 (P := Tryz.prog) Tryz.underlying36]; done)); (focus (simp [cls]; done))))); refine RSW.nil ?_; try simp only [andThen, endBlock])
    (refine W.cond false ?_ ?_; (focus (simp [hq]; done)); simp only [Bool.false_eq_true, if_false])
    (refine W.skip ?_; try simp only [andThen, endBlock])
    ((try simp only [andThen, endBlock, if_true]); repeat (first | with_reducible refine W.seq ?_ | with_reducible refine W.block ?_ | (refine W.region (by rfl) ?_; (repeat (first | (refine OpsW.step rfl ?_; simp [opV]; done) | (refine OpsW.step rfl ?_; simp [opV]) | (refine OpsW.step ?_ ?_; (focus (simp [wantedA]; done)); simp [opV]) | (refine OpsW.un ?_ ?_; (focus (simp [wantedA]; done))))); (refine OpsW.nil ?_; try simp only [andThen, endBlock]))))
    refine W.mono (Q := LsOut A1 v w ls ms i) ?_ ?_
    · refine W.loop ?_
      refine LW.induct (LsInv2 A1 v w ls ms i) ?_ _ _ A1 ⟨0, rfl, Nat.zero_le _, by simp [e0], by simp [e1], by simp [e5], by simp, rfl, by simp⟩
      rintro n e A2 ⟨j, rfl, hj, e0, e1, e5, e6, rfl, hs2⟩
      ((try simp only [andThen, endBlock, if_true]); repeat (first | with_reducible refine W.seq ?_ | with_reducible refine W.block ?_ | (refine W.region (by rfl) ?_; (repeat (first | (refine OpsW.step rfl ?_; simp [opV, e0, e5, e6, LL.idx h Tryz.underlying25 Tryz.sz36 hlt, LL.load h Tryz.sh36 hlt, IntSl.len h1 (P := Tryz.prog) Tryz.underlying36]; done) | (refine OpsW.step rfl ?_; simp [opV, e0, e5, e6, LL.idx h Tryz.underlying25 Tryz.sz36 hlt, LL.load h Tryz.sh36 hlt, IntSl.len h1 (P := Tryz.prog) Tryz.underlying36]) | (refine OpsW.step ?_ ?_; (focus (simp [wantedA, e0, e5, e6, LL.idx h Tryz.underlying25 Tryz.sz36 hlt, LL.load h Tryz.sh36 hlt, IntSl.len h1 (P := Tryz.prog) Tryz.underlying36]; done)); simp [opV, e0, e5, e6, LL.idx h Tryz.underlying25 Tryz.sz36 hlt, LL.load h Tryz.sh36 hlt, IntSl.len h1 (P := Tryz.prog) Tryz.underlying36]) | (refine OpsW.un ?_ ?_; (focus (simp [wantedA, e0, e5, e6, LL.idx h Tryz.underlying25 Tryz.sz36 hlt, LL.load h Tryz.sh36 hlt, IntSl.len h1 (P := Tryz.prog) Tryz.underlying36]; done))))); (refine OpsW.nil ?_; try simp only [andThen, endBlock]))))
      by_cases hjt : j < (lx ls i).length
      · have hjt2 : j < (lx ms i).length := by omega
        (refine W.cond true ?_ ?_; (focus (simp [hjt]; done)); simp only [if_true])
        (refine W.skip ?_; try simp only [andThen, endBlock])
        by_cases hd : ix (lx ls i) j = ix (lx ms i) j
        · ((try simp only [andThen, endBlock, if_true]); repeat (first | with_reducible refine W.seq ?_ | with_reducible refine W.block ?_ | (refine W.region (by rfl) ?_; (repeat (first | (refine OpsW.step rfl ?_; simp [opV]; done) | (refine OpsW.step rfl ?_; simp [opV]) | (refine OpsW.step ?_ ?_; (focus (simp [wantedA]; done)); simp [opV]) | (refine OpsW.un ?_ ?_; (focus (simp [wantedA]; done))))); (refine OpsW.nil ?_; try simp only [andThen, endBlock]))))
          (refine W.drawnS mixedP self0_ok [(0, 0), (1, 0), (2, 0), (3, 0), (4, 0), (5, 0), (6, 0), (7, 0), (8, 0), (9, 0), (10, 0), (11, 0), (12, 0), (13, 0), (14, 0)] (by rfl) (by kernel_rfl) ?_; (repeat (first | (refine RSW.step rfl rfl ?_; simp [stepV, cls, e0, e1, e5, e6, LL.idx h Tryz.underlying25 Tryz.sz36 hlt, LL.load h Tryz.sh36 hlt, LL.idx k Tryz.underlying25 Tryz.sz36 hlt2, LL.load k Tryz.sh36 hlt2, IntSl.idx h1 Tryz.underlying36 Tryz.sz3 hjt, IntSl.load h1 Tryz.sh3 hjt, IntSl.idx k1 Tryz.underlying36 Tryz.sz3 hjt2, IntSl.load k1 Tryz.sh3 hjt2, hd]) | (refine RSW.step rfl ?_ ?_; (focus (simp [wantedA, e0, e1, e5, e6, LL.idx h Tryz.underlying25 Tryz.sz36 hlt, LL.load h Tryz.sh36 hlt, LL.idx k Tryz.underlying25 Tryz.sz36 hlt2, LL.load k Tryz.sh36 hlt2, IntSl.idx h1 Tryz.underlying36 Tryz.sz3 hjt, IntSl.load h1 Tryz.sh3 hjt, IntSl.idx k1 Tryz.underlying36 Tryz.sz3 hjt2, IntSl.load k1 Tryz.sh3 hjt2, hd]; done)); simp [stepV, cls, e0, e1, e5, e6, LL.idx h Tryz.underlying25 Tryz.sz36 hlt, LL.load h Tryz.sh36 hlt, LL.idx k Tryz.underlying25 Tryz.sz36 hlt2, LL.load k Tryz.sh36 hlt2, IntSl.idx h1 Tryz.underlying36 Tryz.sz3 hjt, IntSl.load h1 Tryz.sh3 hjt, IntSl.idx k1 Tryz.underlying36 Tryz.sz3 hjt2, IntSl.load k1 Tryz.sh3 hjt2, hd]) | (refine RSW.un rfl ?_ ?_ ?_; (focus (simp [wantedA, e0, e1, e5, e6, LL.idx h Tryz.underlying25 Tryz.sz36 hlt, LL.load h Tryz.sh36 hlt, LL.idx k Tryz.underlying25 Tryz.sz36 hlt2, LL.load k Tryz.sh36 hlt2, IntSl.idx h1 Tryz.underlying36 Tryz.sz3 hjt, IntSl.load h1 Tryz.sh3 hjt, IntSl.idx k1 Tryz.underlying36 Tryz.sz3 hjt2, IntSl.load k1 Tryz.sh3 hjt2, hd]; done)); (focus (simp [cls]; done))))); refine RSW.nil ?_; try simp only [andThen, endBlock])
          (refine W.cond false ?_ ?_; (focus (simp; done)); simp only [Bool.false_eq_true, if_false])
          (refine W.skip ?_; try simp only [andThen, endBlock])
          ((try simp only [andThen, endBlock, if_true]); repeat (first | with_reducible refine W.seq ?_ | with_reducible refine W.block ?_ | (refine W.region (by rfl) ?_; (repeat (first | (refine OpsW.step rfl ?_; simp [opV, e6]; done) | (refine OpsW.step rfl ?_; simp [opV, e6]) | (refine OpsW.step ?_ ?_; (focus (simp [wantedA, e6]; done)); simp [opV, e6]) | (refine OpsW.un ?_ ?_; (focus (simp [wantedA, e6]; done))))); (refine OpsW.nil ?_; try simp only [andThen, endBlock]))))
          exact ⟨_, by omega, j + 1, rfl, by omega, by simp [e0], by simp [e1], by simp [e5], by simp [wrap_succ hjt h1.2], rfl, fun m hm => by
            by_cases hmj : m = j
            · subst hmj; exact hd
            · exact hs2 m (by omega)⟩
        · ((try simp only [andThen, endBlock, if_true]); repeat (first | with_reducible refine W.seq ?_ | with_reducible refine W.block ?_ | (refine W.region (by rfl) ?_; (repeat (first | (refine OpsW.step rfl ?_; simp [opV]; done) | (refine OpsW.step rfl ?_; simp [opV]) | (refine OpsW.step ?_ ?_; (focus (simp [wantedA]; done)); simp [opV]) | (refine OpsW.un ?_ ?_; (focus (simp [wantedA]; done))))); (refine OpsW.nil ?_; try simp only [andThen, endBlock]))))
          (refine W.drawnS mixedP self0_ok [(0, 0), (1, 0), (2, 0), (3, 0), (4, 0), (5, 0), (6, 0), (7, 0), (8, 0), (9, 0), (10, 0), (11, 0), (12, 0), (13, 0), (14, 0)] (by rfl) (by kernel_rfl) ?_; (repeat (first | (refine RSW.step rfl rfl ?_; simp [stepV, cls, e0, e1, e5, e6, LL.idx h Tryz.underlying25 Tryz.sz36 hlt, LL.load h Tryz.sh36 hlt, LL.idx k Tryz.underlying25 Tryz.sz36 hlt2, LL.load k Tryz.sh36 hlt2, IntSl.idx h1 Tryz.underlying36 Tryz.sz3 hjt, IntSl.load h1 Tryz.sh3 hjt, IntSl.idx k1 Tryz.underlying36 Tryz.sz3 hjt2, IntSl.load k1 Tryz.sh3 hjt2, hd]) | (refine RSW.step rfl ?_ ?_; (focus (simp [wantedA, e0, e1, e5, e6, LL.idx h Tryz.underlying25 Tryz.sz36 hlt, LL.load h Tryz.sh36 hlt, LL.idx k Tryz.underlying25 Tryz.sz36 hlt2, LL.load k Tryz.sh36 hlt2, IntSl.idx h1 Tryz.underlying36 Tryz.sz3 hjt, IntSl.load h1 Tryz.sh3 hjt, IntSl.idx k1 Tryz.underlying36 Tryz.sz3 hjt2, IntSl.load k1 Tryz.sh3 hjt2, hd]; done)); simp [stepV, cls, e0, e1, e5, e6, LL.idx h Tryz.underlying25 Tryz.sz36 hlt, LL.load h Tryz.sh36 hlt, LL.idx k Tryz.underlying25 Tryz.sz36 hlt2, LL.load k Tryz.sh36 hlt2, IntSl.idx h1 Tryz.underlying36 Tryz.sz3 hjt, IntSl.load h1 Tryz.sh3 hjt, IntSl.idx k1 Tryz.underlying36 Tryz.sz3 hjt2, IntSl.load k1 Tryz.sh3 hjt2, hd]) | (refine RSW.un rfl ?_ ?_ ?_; (focus (simp [wantedA, e0, e1, e5, e6, LL.idx h Tryz.underlying25 Tryz.sz36 hlt, LL.load h Tryz.sh36 hlt, LL.idx k Tryz.underlying25 Tryz.sz36 hlt2, LL.load k Tryz.sh36 hlt2, IntSl.idx h1 Tryz.underlying36 Tryz.sz3 hjt, IntSl.load h1 Tryz.sh3 hjt, IntSl.idx k1 Tryz.underlying36 Tryz.sz3 hjt2, IntSl.load k1 Tryz.sh3 hjt2, hd]; done)); (focus (simp [cls]; done))))); refine RSW.nil ?_; try simp only [andThen, endBlock])
          (refine W.cond true ?_ ?_; (focus (simp; done)); simp only [if_true])
          ((try simp only [andThen, endBlock, if_true]); repeat (first | with_reducible refine W.seq ?_ | with_reducible refine W.block ?_ | (refine W.region (by rfl) ?_; (repeat (first | (refine OpsW.step rfl ?_; simp [opV]; done) | (refine OpsW.step rfl ?_; simp [opV]) | (refine OpsW.step ?_ ?_; (focus (simp [wantedA]; done)); simp [opV]) | (refine OpsW.un ?_ ?_; (focus (simp [wantedA]; done))))); (refine OpsW.nil ?_; try simp only [andThen, endBlock]))))
          (refine W.ret ?_; try simp only [andThen, endBlock])
          exact ⟨by simp, rfl, fun hh => hd (by rw [hh])⟩
      · (refine W.cond false ?_ ?_; (focus (simp [hjt]; done)); simp only [Bool.false_eq_true, if_false])
        (refine W.exit ?_; try simp only [andThen, endBlock, if_true])
        exact ⟨rfl, by simp [e0], by simp [e1], by simp [e5], rfl, ints_ext (by omega) fun m hm => hs2 m (by omega)⟩
    · intro x e' A2 hQ
      cases x with
      | normal => exact hQ.elim
      | ret =>
        obtain ⟨q2, rfl, q3⟩ := hQ
        simp only [andThen, endBlock]
        refine ⟨.inr rfl, [.bool false], by simp [Tryz.f34, resultsA, resultA, q2], ?_⟩
        exact ⟨.no fun hS => q3 (by rw [hS]), rfl⟩
      | exit m =>
        obtain ⟨rfl, q0, q1, q5, rfl, q⟩ := hQ
        ((try simp only [andThen, endBlock, if_true]); repeat (first | with_reducible refine W.seq ?_ | with_reducible refine W.block ?_ | (refine W.region (by rfl) ?_; (repeat (first | (refine OpsW.step rfl ?_; simp [opV, q5]; done) | (refine OpsW.step rfl ?_; simp [opV, q5]) | (refine OpsW.step ?_ ?_; (focus (simp [wantedA, q5]; done)); simp [opV, q5]) | (refine OpsW.un ?_ ?_; (focus (simp [wantedA, q5]; done))))); (refine OpsW.nil ?_; try simp only [andThen, endBlock]))))
        exact ⟨_, by omega, i + 1, rfl, by omega, by simp [q0], by simp [q1], by simp [wrap_succ hlt h.le], rfl, fun j hj => by
          by_cases hji : j = i
          · subst hji; exact q
          · exact hs j (by omega)⟩
  · (refine W.cond false ?_ ?_; (focus (simp [hlt]; done)); simp only [Bool.false_eq_true, if_false])
    (refine W.exit ?_; try simp only [andThen, endBlock, if_true])
    ((try simp only [andThen, endBlock, if_true]); repeat (first | with_reducible refine W.seq ?_ | with_reducible refine W.block ?_ | (refine W.region (by rfl) ?_; (repeat (first | (refine OpsW.step rfl ?_; simp [opV]; done) | (refine OpsW.step rfl ?_; simp [opV]) | (refine OpsW.step ?_ ?_; (focus (simp [wantedA]; done)); simp [opV]) | (refine OpsW.un ?_ ?_; (focus (simp [wantedA]; done))))); (refine OpsW.nil ?_; try simp only [andThen, endBlock]))))
    (refine W.ret ?_; try simp only [andThen, endBlock])
    refine ⟨.inr rfl, [.bool true], by simp [Tryz.f34, resultsA, resultA], ?_⟩
    exact ⟨.yes (lists_ext (by omega) fun j hj => hs j (by omega)), rfl⟩
theorem lists_spec (A : AH) (v w : AV) (ls ms : List (List Int)) (vs ws : List AV) (h : LL A v ls vs) (k : LL A w ms ws) : FnW Tryz.prog 9 [v, w] A fun u A' => IsB u (ls = ms) ∧ A = A' := by
  refine FnW.body Tryz.func9 (by decide) rfl Tryz.ntmps9 ?_
  generalize hE : bindArgs _ 0 _ = E
  have a0 := (congrArg (fun e => En.get e 0) hE).symm
  simp [bindArgs, kept, En.get_bind] at a0
  have a1 := (congrArg (fun e => En.get e 1) hE).symm
  simp [bindArgs, kept, En.get_bind] at a1
  clear hE
  ((try simp only [andThen, endBlock, if_true]); repeat (first | with_reducible refine W.seq ?_ | with_reducible refine W.block ?_ | (refine W.region (by rfl) ?_; (repeat (first | (refine OpsW.step rfl ?_; simp [opV]; done) | (refine OpsW.step rfl ?_; simp [opV]) | (refine OpsW.step ?_ ?_; (focus (simp [wantedA]; done)); simp [opV]) | (refine OpsW.un ?_ ?_; (focus (simp [wantedA]; done))))); (refine OpsW.nil ?_; try simp only [andThen, endBlock]))))
  (refine W.region (by rfl) ?_; (repeat (first | (refine OpsW.step rfl ?_; simp [opV, a0, a1]; done) | (refine OpsW.step rfl ?_; simp [opV, a0, a1]) | (refine OpsW.step ?_ ?_; (focus (simp [wantedA, a0, a1]; done)); simp [opV, a0, a1]) | (refine OpsW.un ?_ ?_; (focus (simp [wantedA, a0, a1]; done))))))
  (refine FnW.mono (lists17_spec A v w ls ms vs ws h k) ?_; rintro u A2 ⟨g1, g2⟩)
  (repeat (first | (refine OpsW.step rfl ?_; simp [opV]; done) | (refine OpsW.step rfl ?_; simp [opV]) | (refine OpsW.step ?_ ?_; (focus (simp [wantedA]; done)); simp [opV]) | (refine OpsW.un ?_ ?_; (focus (simp [wantedA]; done)))))
  (refine OpsW.nil ?_; try simp only [andThen, endBlock])
  (refine W.ret ?_; try simp only [andThen, endBlock])
  refine ⟨.inr rfl, [u], by simp [Tryz.f9, resultsA, resultA], ?_⟩
  exact ⟨g1, g2⟩
end Go.Proofs
