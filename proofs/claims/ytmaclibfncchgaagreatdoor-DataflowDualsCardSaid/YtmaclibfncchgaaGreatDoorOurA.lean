import Derived.Test.YtmaclibfncchgaaGreatDoorRefC
set_option linter.all false
/-! valid of the program. -/
namespace Go.Proofs
open Go Go.Ab
variable [LoopTab]
def BadP (n : Nat) (x : Int) : Prop := x < 1 ∨ (n : Int) ≤ x
theorem bad_spec (A : AH) (β : Nat) (p : AV) (nx : List (List Int)) (cs : List AV) (x : Int) (hb : Box A β p) (hf : Fl A p nx cs) : FnW Tryz.prog 73 [IV x, .ptr β 0] A fun u A' => IsB u (BadP nx.length x) ∧ A = A' := by
  refine FnW.body Tryz.func73 (by decide) rfl Tryz.ntmps73 ?_
  generalize hE : bindArgs _ 0 _ = E
  have a0 := (congrArg (fun e => En.get e 0) hE).symm
  simp [bindArgs, kept, En.get_bind] at a0
  have a1 := (congrArg (fun e => En.get e 1) hE).symm
  simp [bindArgs, kept, En.get_bind] at a1
  clear hE
  refine W.seq ?_
  (refine W.region (by rfl) ?_; (repeat (first | (refine OpsW.step rfl ?_; simp [opV]; done) | (refine OpsW.step rfl ?_; simp [opV]) | (refine OpsW.step ?_ ?_; (focus (simp [wantedA]; done)); simp [opV]) | (refine OpsW.un ?_ ?_; (focus (simp [wantedA]; done))))); (refine OpsW.nil ?_; try simp only [andThen, endBlock]))
  by_cases c1 : x < 1
  · ((try simp only [andThen, endBlock, if_true]); repeat (first | with_reducible refine W.seq ?_ | with_reducible refine W.block ?_ | (refine W.region (by rfl) ?_; (repeat (first | (refine OpsW.step rfl ?_; simp [opV, a0, a1, c1]; done) | (refine OpsW.step rfl ?_; simp [opV, a0, a1, c1]) | (refine OpsW.step ?_ ?_; (focus (simp [wantedA, a0, a1, c1]; done)); simp [opV, a0, a1, c1]) | (refine OpsW.un ?_ ?_; (focus (simp [wantedA, a0, a1, c1]; done))))); (refine OpsW.nil ?_; try simp only [andThen, endBlock]))))
    (refine W.ret ?_; try simp only [andThen, endBlock])
    refine ⟨.inr rfl, [.bool true], by simp [Tryz.f73, resultsA, resultA], ?_⟩
    exact ⟨.yes (.inl c1), rfl⟩
  by_cases c2 : (nx.length : Int) ≤ x
  · ((try simp only [andThen, endBlock, if_true]); repeat (first | with_reducible refine W.seq ?_ | with_reducible refine W.block ?_ | (refine W.region (by rfl) ?_; (repeat (first | (refine OpsW.step rfl ?_; simp [opV, a0, a1, box_load hb.get Tryz.sh22, Fl.len hf (P := Tryz.prog) Tryz.underlying22, c1, c2]; done) | (refine OpsW.step rfl ?_; simp [opV, a0, a1, box_load hb.get Tryz.sh22, Fl.len hf (P := Tryz.prog) Tryz.underlying22, c1, c2]) | (refine OpsW.step ?_ ?_; (focus (simp [wantedA, a0, a1, box_load hb.get Tryz.sh22, Fl.len hf (P := Tryz.prog) Tryz.underlying22, c1, c2]; done)); simp [opV, a0, a1, box_load hb.get Tryz.sh22, Fl.len hf (P := Tryz.prog) Tryz.underlying22, c1, c2]) | (refine OpsW.un ?_ ?_; (focus (simp [wantedA, a0, a1, box_load hb.get Tryz.sh22, Fl.len hf (P := Tryz.prog) Tryz.underlying22, c1, c2]; done))))); (refine OpsW.nil ?_; try simp only [andThen, endBlock]))))
    (refine W.ret ?_; try simp only [andThen, endBlock])
    refine ⟨.inr rfl, [.bool true], by simp [Tryz.f73, resultsA, resultA], ?_⟩
    exact ⟨.yes (.inr c2), rfl⟩
  · ((try simp only [andThen, endBlock, if_true]); repeat (first | with_reducible refine W.seq ?_ | with_reducible refine W.block ?_ | (refine W.region (by rfl) ?_; (repeat (first | (refine OpsW.step rfl ?_; simp [opV, a0, a1, box_load hb.get Tryz.sh22, Fl.len hf (P := Tryz.prog) Tryz.underlying22, c1, c2]; done) | (refine OpsW.step rfl ?_; simp [opV, a0, a1, box_load hb.get Tryz.sh22, Fl.len hf (P := Tryz.prog) Tryz.underlying22, c1, c2]) | (refine OpsW.step ?_ ?_; (focus (simp [wantedA, a0, a1, box_load hb.get Tryz.sh22, Fl.len hf (P := Tryz.prog) Tryz.underlying22, c1, c2]; done)); simp [opV, a0, a1, box_load hb.get Tryz.sh22, Fl.len hf (P := Tryz.prog) Tryz.underlying22, c1, c2]) | (refine OpsW.un ?_ ?_; (focus (simp [wantedA, a0, a1, box_load hb.get Tryz.sh22, Fl.len hf (P := Tryz.prog) Tryz.underlying22, c1, c2]; done))))); (refine OpsW.nil ?_; try simp only [andThen, endBlock]))))
    (refine W.ret ?_; try simp only [andThen, endBlock])
    refine ⟨.inr rfl, [.bool false], by simp [Tryz.f73, resultsA, resultA], ?_⟩
    exact ⟨.no (by unfold BadP; omega), rfl⟩
def IdxInv (A0 : AH) (β : Nat) (v : AV) (l : List Int) (n : Nat) (k : Nat) (e : En) (A : AH) : Prop := ∃ i : Nat, k = l.length - i ∧ i ≤ l.length ∧ e.get 0 = v ∧ e.get 1 = .func 73 [] [.ptr β 0] ∧ e.get 7 = IV l.length ∧ e.get 8 = IV i ∧ A = A0 ∧ ∀ x ∈ l.take i, ¬ BadP n x
/-- the answer of IndexFunc -/
def IdxAns (l : List Int) (n : Nat) (u : AV) : Prop := (u = IV (-1) ∧ ∀ x ∈ l, ¬ BadP n x) ∨ ∃ i : Nat, u = IV i ∧ ∃ x ∈ l, BadP n x
theorem index_spec (A : AH) (β : Nat) (p : AV) (nx : List (List Int)) (cs : List AV) (v : AV) (l : List Int) (hb : Box A β p) (hf : Fl A p nx cs) (hv : IntSl A v l) : FnW Tryz.prog 110 [v, .func 73 [] [.ptr β 0]] A fun u A' => IdxAns l nx.length u ∧ A = A' := by
  refine FnW.body Tryz.func110 (by decide) rfl Tryz.ntmps110 ?_
  generalize hE : bindArgs _ 0 _ = E
  have a0 := (congrArg (fun e => En.get e 0) hE).symm
  simp [bindArgs, kept, En.get_bind] at a0
  have a1 := (congrArg (fun e => En.get e 1) hE).symm
  simp [bindArgs, kept, En.get_bind] at a1
  clear hE
  refine W.seq ?_
  (refine W.region (by rfl) ?_; (repeat (first | (refine OpsW.step rfl ?_; simp [opV]; done) | (refine OpsW.step rfl ?_; simp [opV]) | (refine OpsW.step ?_ ?_; (focus (simp [wantedA]; done)); simp [opV]) | (refine OpsW.un ?_ ?_; (focus (simp [wantedA]; done))))); (refine OpsW.nil ?_; try simp only [andThen, endBlock]))
  ((try simp only [andThen, endBlock, if_true]); repeat (first | with_reducible refine W.seq ?_ | with_reducible refine W.block ?_ | (refine W.region (by rfl) ?_; (repeat (first | (refine OpsW.step rfl ?_; simp [opV, a0, IntSl.len hv (P := Tryz.prog) Tryz.underlying36]; done) | (refine OpsW.step rfl ?_; simp [opV, a0, IntSl.len hv (P := Tryz.prog) Tryz.underlying36]) | (refine OpsW.step ?_ ?_; (focus (simp [wantedA, a0, IntSl.len hv (P := Tryz.prog) Tryz.underlying36]; done)); simp [opV, a0, IntSl.len hv (P := Tryz.prog) Tryz.underlying36]) | (refine OpsW.un ?_ ?_; (focus (simp [wantedA, a0, IntSl.len hv (P := Tryz.prog) Tryz.underlying36]; done))))); (refine OpsW.nil ?_; try simp only [andThen, endBlock]))))
  refine W.loop ?_
  refine LW.induct (IdxInv A β v l nx.length) ?_ _ _ A ⟨0, rfl, Nat.zero_le _, by simp [a0], by simp [a1], by simp, by simp, rfl, by simp⟩
  rintro k e A1 ⟨i, rfl, hi, e0, e1, e7, e8, rfl, hs⟩
  ((try simp only [andThen, endBlock, if_true]); repeat (first | with_reducible refine W.seq ?_ | with_reducible refine W.block ?_ | (refine W.region (by rfl) ?_; (repeat (first | (refine OpsW.step rfl ?_; simp [opV, e7, e8]; done) | (refine OpsW.step rfl ?_; simp [opV, e7, e8]) | (refine OpsW.step ?_ ?_; (focus (simp [wantedA, e7, e8]; done)); simp [opV, e7, e8]) | (refine OpsW.un ?_ ?_; (focus (simp [wantedA, e7, e8]; done))))); (refine OpsW.nil ?_; try simp only [andThen, endBlock]))))
  by_cases hlt : i < l.length
  · (refine W.cond true ?_ ?_; (focus (simp [hlt]; done)); simp only [if_true])
    (refine W.skip ?_; try simp only [andThen, endBlock])
    ((try simp only [andThen, endBlock, if_true]); repeat (first | with_reducible refine W.seq ?_ | with_reducible refine W.block ?_ | (refine W.region (by rfl) ?_; (repeat (first | (refine OpsW.step rfl ?_; simp [opV, e8]; done) | (refine OpsW.step rfl ?_; simp [opV, e8]) | (refine OpsW.step ?_ ?_; (focus (simp [wantedA, e8]; done)); simp [opV, e8]) | (refine OpsW.un ?_ ?_; (focus (simp [wantedA, e8]; done))))); (refine OpsW.nil ?_; try simp only [andThen, endBlock]))))
    (refine W.region (by rfl) ?_; (repeat (first | (refine OpsW.step rfl ?_; simp [opV, e0, e1, IntSl.idx hv Tryz.underlying36 Tryz.sz3 hlt, IntSl.load hv Tryz.sh3 hlt]; done) | (refine OpsW.step rfl ?_; simp [opV, e0, e1, IntSl.idx hv Tryz.underlying36 Tryz.sz3 hlt, IntSl.load hv Tryz.sh3 hlt]) | (refine OpsW.step ?_ ?_; (focus (simp [wantedA, e0, e1, IntSl.idx hv Tryz.underlying36 Tryz.sz3 hlt, IntSl.load hv Tryz.sh3 hlt]; done)); simp [opV, e0, e1, IntSl.idx hv Tryz.underlying36 Tryz.sz3 hlt, IntSl.load hv Tryz.sh3 hlt]) | (refine OpsW.un ?_ ?_; (focus (simp [wantedA, e0, e1, IntSl.idx hv Tryz.underlying36 Tryz.sz3 hlt, IntSl.load hv Tryz.sh3 hlt]; done))))))
    (refine FnW.mono (bad_spec A1 β p nx cs (ix l i) hb hf) ?_; rintro _ A2 ⟨⟨t, rfl, ht⟩, hA⟩)
    subst hA
    (repeat (first | (refine OpsW.step rfl ?_; simp [opV]; done) | (refine OpsW.step rfl ?_; simp [opV]) | (refine OpsW.step ?_ ?_; (focus (simp [wantedA]; done)); simp [opV]) | (refine OpsW.un ?_ ?_; (focus (simp [wantedA]; done)))))
    (refine OpsW.nil ?_; try simp only [andThen, endBlock])
    cases t with
    | true =>
      (refine W.cond true ?_ ?_; (focus (simp; done)); simp only [if_true])
      ((try simp only [andThen, endBlock, if_true]); repeat (first | with_reducible refine W.seq ?_ | with_reducible refine W.block ?_ | (refine W.region (by rfl) ?_; (repeat (first | (refine OpsW.step rfl ?_; simp [opV]; done) | (refine OpsW.step rfl ?_; simp [opV]) | (refine OpsW.step ?_ ?_; (focus (simp [wantedA]; done)); simp [opV]) | (refine OpsW.un ?_ ?_; (focus (simp [wantedA]; done))))); (refine OpsW.nil ?_; try simp only [andThen, endBlock]))))
      (refine W.ret ?_; try simp only [andThen, endBlock])
      refine ⟨.inr rfl, [IV i], by simp [Tryz.f110, resultsA, resultA], ?_⟩
      exact ⟨.inr ⟨i, rfl, _, ix_mem hlt, ht.1 rfl⟩, rfl⟩
    | false =>
      (refine W.cond false ?_ ?_; (focus (simp; done)); simp only [Bool.false_eq_true, if_false])
      (refine W.skip ?_; try simp only [andThen, endBlock])
      ((try simp only [andThen, endBlock, if_true]); repeat (first | with_reducible refine W.seq ?_ | with_reducible refine W.block ?_ | (refine W.region (by rfl) ?_; (repeat (first | (refine OpsW.step rfl ?_; simp [opV, e8]; done) | (refine OpsW.step rfl ?_; simp [opV, e8]) | (refine OpsW.step ?_ ?_; (focus (simp [wantedA, e8]; done)); simp [opV, e8]) | (refine OpsW.un ?_ ?_; (focus (simp [wantedA, e8]; done))))); (refine OpsW.nil ?_; try simp only [andThen, endBlock]))))
      exact ⟨_, by omega, i + 1, rfl, by omega, by simp [e0], by simp [e1], by simp [e7], by simp [wrap_succ hlt hv.2], rfl, take_succ_mem hlt hs fun hb => Bool.noConfusion (ht.2 hb)⟩
  · (refine W.cond false ?_ ?_; (focus (simp [hlt]; done)); simp only [Bool.false_eq_true, if_false])
    (refine W.exit ?_; try simp only [andThen, endBlock, if_true])
    ((try simp only [andThen, endBlock, if_true]); repeat (first | with_reducible refine W.seq ?_ | with_reducible refine W.block ?_ | (refine W.region (by rfl) ?_; (repeat (first | (refine OpsW.step rfl ?_; simp [opV]; done) | (refine OpsW.step rfl ?_; simp [opV]) | (refine OpsW.step ?_ ?_; (focus (simp [wantedA]; done)); simp [opV]) | (refine OpsW.un ?_ ?_; (focus (simp [wantedA]; done))))); (refine OpsW.nil ?_; try simp only [andThen, endBlock]))))
    (refine W.ret ?_; try simp only [andThen, endBlock])
    refine ⟨.inr rfl, [IV (-1)], by simp [Tryz.f110, resultsA, resultA], ?_⟩
    rw [List.take_of_length_le (by omega)] at hs
    exact ⟨.inl ⟨rfl, hs⟩, rfl⟩
theorem contains_spec (A : AH) (β : Nat) (p : AV) (nx : List (List Int)) (cs : List AV) (v : AV) (l : List Int) (hb : Box A β p) (hf : Fl A p nx cs) (hv : IntSl A v l) : FnW Tryz.prog 72 [v, .func 73 [] [.ptr β 0]] A fun u A' => IsB u (∃ x ∈ l, BadP nx.length x) ∧ A = A' := by
  refine FnW.body Tryz.func72 (by decide) rfl Tryz.ntmps72 ?_
  generalize hE : bindArgs _ 0 _ = E
  have a0 := (congrArg (fun e => En.get e 0) hE).symm
  simp [bindArgs, kept, En.get_bind] at a0
  have a1 := (congrArg (fun e => En.get e 1) hE).symm
  simp [bindArgs, kept, En.get_bind] at a1
  clear hE
  ((try simp only [andThen, endBlock, if_true]); repeat (first | with_reducible refine W.seq ?_ | with_reducible refine W.block ?_ | (refine W.region (by rfl) ?_; (repeat (first | (refine OpsW.step rfl ?_; simp [opV]; done) | (refine OpsW.step rfl ?_; simp [opV]) | (refine OpsW.step ?_ ?_; (focus (simp [wantedA]; done)); simp [opV]) | (refine OpsW.un ?_ ?_; (focus (simp [wantedA]; done))))); (refine OpsW.nil ?_; try simp only [andThen, endBlock]))))
  (refine W.region (by rfl) ?_; (repeat (first | (refine OpsW.step rfl ?_; simp [opV, a0, a1]; done) | (refine OpsW.step rfl ?_; simp [opV, a0, a1]) | (refine OpsW.step ?_ ?_; (focus (simp [wantedA, a0, a1]; done)); simp [opV, a0, a1]) | (refine OpsW.un ?_ ?_; (focus (simp [wantedA, a0, a1]; done))))))
  (refine FnW.mono (index_spec A β p nx cs v l hb hf hv) ?_; rintro u A2 ⟨h, hA⟩)
  subst hA
  rcases h with ⟨rfl, h⟩ | ⟨i, rfl, h⟩
  · (repeat (first | (refine OpsW.step rfl ?_; simp [opV]; done) | (refine OpsW.step rfl ?_; simp [opV]) | (refine OpsW.step ?_ ?_; (focus (simp [wantedA]; done)); simp [opV]) | (refine OpsW.un ?_ ?_; (focus (simp [wantedA]; done)))))
    (refine OpsW.nil ?_; try simp only [andThen, endBlock])
    (refine W.ret ?_; try simp only [andThen, endBlock])
    refine ⟨.inr rfl, [.bool false], by simp [Tryz.f72, resultsA, resultA], ?_⟩
    exact ⟨.no fun ⟨x, hx, hb⟩ => h x hx hb, rfl⟩
  · (repeat (first | (refine OpsW.step rfl ?_; simp [opV]; done) | (refine OpsW.step rfl ?_; simp [opV]) | (refine OpsW.step ?_ ?_; (focus (simp [wantedA]; done)); simp [opV]) | (refine OpsW.un ?_ ?_; (focus (simp [wantedA]; done)))))
    (refine OpsW.nil ?_; try simp only [andThen, endBlock])
    (refine W.ret ?_; try simp only [andThen, endBlock])
    refine ⟨.inr rfl, [.bool true], by simp [Tryz.f72, resultsA, resultA], ?_⟩
    exact ⟨.yes h, rfl⟩
def VlInv (A0 : AH) (β : Nat) (p : AV) (nx : List (List Int)) (k : Nat) (e : En) (A : AH) : Prop := ∃ i : Nat, k = nx.length - i ∧ i ≤ nx.length ∧ e.get 1 = .ptr β 0 ∧ e.get 25 = p ∧ e.get 26 = IV nx.length ∧ e.get 27 = IV i ∧ Ext A0 A ∧ ∀ j, j < i → ∀ x ∈ lx nx j, 1 ≤ x ∧ x < nx.length
theorem pvalid_spec (A : AH) (p : AV) (nx : List (List Int)) (cs : List AV) (h : Fl A p nx cs) : FnW Tryz.prog 47 [.agg [p]] A fun u A' => IsB u (ValidF nx) ∧ Ext A A' := by
  refine FnW.body Tryz.func47 (by decide) rfl Tryz.ntmps47 ?_
  generalize hE : bindArgs _ 0 _ = E
  have a0 := (congrArg (fun e => En.get e 0) hE).symm
  simp [bindArgs, kept, En.get_bind] at a0
  clear hE
  refine W.seq ?_
  (refine W.region (by rfl) ?_; (repeat (first | (refine OpsW.step rfl ?_; simp [opV, a0]; done) | (refine OpsW.step rfl ?_; simp [opV, a0]) | (refine OpsW.step ?_ ?_; (focus (simp [wantedA, a0]; done)); simp [opV, a0]) | (refine OpsW.un ?_ ?_; (focus (simp [wantedA, a0]; done))))); (refine OpsW.nil ?_; try simp only [andThen, endBlock]))
  have hb := Box.new A p
  have hx := Ext.box A (.cells [p])
  have hf := h.ext hx
  generalize A.push (.cells [p]) = B at *
  by_cases c1 : (nx.length : Int) < 2
  · ((try simp only [andThen, endBlock, if_true]); repeat (first | with_reducible refine W.seq ?_ | with_reducible refine W.block ?_ | (refine W.region (by rfl) ?_; (repeat (first | (refine OpsW.step rfl ?_; simp [opV, box_load hb.get Tryz.sh22, Fl.len hf (P := Tryz.prog) Tryz.underlying22, c1]; done) | (refine OpsW.step rfl ?_; simp [opV, box_load hb.get Tryz.sh22, Fl.len hf (P := Tryz.prog) Tryz.underlying22, c1]) | (refine OpsW.step ?_ ?_; (focus (simp [wantedA, box_load hb.get Tryz.sh22, Fl.len hf (P := Tryz.prog) Tryz.underlying22, c1]; done)); simp [opV, box_load hb.get Tryz.sh22, Fl.len hf (P := Tryz.prog) Tryz.underlying22, c1]) | (refine OpsW.un ?_ ?_; (focus (simp [wantedA, box_load hb.get Tryz.sh22, Fl.len hf (P := Tryz.prog) Tryz.underlying22, c1]; done))))); (refine OpsW.nil ?_; try simp only [andThen, endBlock]))))
    (refine W.cond true ?_ ?_; (focus (simp; done)); simp only [if_true])
    ((try simp only [andThen, endBlock, if_true]); repeat (first | with_reducible refine W.seq ?_ | with_reducible refine W.block ?_ | (refine W.region (by rfl) ?_; (repeat (first | (refine OpsW.step rfl ?_; simp [opV]; done) | (refine OpsW.step rfl ?_; simp [opV]) | (refine OpsW.step ?_ ?_; (focus (simp [wantedA]; done)); simp [opV]) | (refine OpsW.un ?_ ?_; (focus (simp [wantedA]; done))))); (refine OpsW.nil ?_; try simp only [andThen, endBlock]))))
    (refine W.ret ?_; try simp only [andThen, endBlock])
    refine ⟨.inr rfl, [.bool false], by simp [Tryz.f47, resultsA, resultA], ?_⟩
    exact ⟨.no fun hS => by have := hS.1; omega, hx⟩
  by_cases c2 : (1024 : Int) < nx.length
  · ((try simp only [andThen, endBlock, if_true]); repeat (first | with_reducible refine W.seq ?_ | with_reducible refine W.block ?_ | (refine W.region (by rfl) ?_; (repeat (first | (refine OpsW.step rfl ?_; simp [opV, box_load hb.get Tryz.sh22, Fl.len hf (P := Tryz.prog) Tryz.underlying22, c1, c2]; done) | (refine OpsW.step rfl ?_; simp [opV, box_load hb.get Tryz.sh22, Fl.len hf (P := Tryz.prog) Tryz.underlying22, c1, c2]) | (refine OpsW.step ?_ ?_; (focus (simp [wantedA, box_load hb.get Tryz.sh22, Fl.len hf (P := Tryz.prog) Tryz.underlying22, c1, c2]; done)); simp [opV, box_load hb.get Tryz.sh22, Fl.len hf (P := Tryz.prog) Tryz.underlying22, c1, c2]) | (refine OpsW.un ?_ ?_; (focus (simp [wantedA, box_load hb.get Tryz.sh22, Fl.len hf (P := Tryz.prog) Tryz.underlying22, c1, c2]; done))))); (refine OpsW.nil ?_; try simp only [andThen, endBlock]))))
    (refine W.cond true ?_ ?_; (focus (simp; done)); simp only [if_true])
    ((try simp only [andThen, endBlock, if_true]); repeat (first | with_reducible refine W.seq ?_ | with_reducible refine W.block ?_ | (refine W.region (by rfl) ?_; (repeat (first | (refine OpsW.step rfl ?_; simp [opV]; done) | (refine OpsW.step rfl ?_; simp [opV]) | (refine OpsW.step ?_ ?_; (focus (simp [wantedA]; done)); simp [opV]) | (refine OpsW.un ?_ ?_; (focus (simp [wantedA]; done))))); (refine OpsW.nil ?_; try simp only [andThen, endBlock]))))
    (refine W.ret ?_; try simp only [andThen, endBlock])
    refine ⟨.inr rfl, [.bool false], by simp [Tryz.f47, resultsA, resultA], ?_⟩
    exact ⟨.no fun hS => by have := hS.2.1; omega, hx⟩
  have h1lt : 1 < nx.length := by omega
  have hi1 : idxV Tryz.prog 22 p (.int .i64 1) = some (.ptr (pb p) (po p + 3)) := Fl.idx hf (P := Tryz.prog) Tryz.underlying22 Tryz.sz39 (i := 1) h1lt (k := .i64)
  have hl1 : loadA Tryz.prog B 36 (.ptr (pb p) (po p + 3 + 2)) = some (vx cs 5) := Fl.load hf (P := Tryz.prog) Tryz.sh36 (i := 1) h1lt
  have hn1 := hf.el 1 h1lt
  by_cases c3 : 0 < (lx nx 1).length
  · ((try simp only [andThen, endBlock, if_true]); repeat (first | with_reducible refine W.seq ?_ | with_reducible refine W.block ?_ | (refine W.region (by rfl) ?_; (repeat (first | (refine OpsW.step rfl ?_; simp [opV, box_load hb.get Tryz.sh22, Fl.len hf (P := Tryz.prog) Tryz.underlying22, c1, c2, hi1, hl1, IntSl.len hn1 (P := Tryz.prog) Tryz.underlying36, c3]; done) | (refine OpsW.step rfl ?_; simp [opV, box_load hb.get Tryz.sh22, Fl.len hf (P := Tryz.prog) Tryz.underlying22, c1, c2, hi1, hl1, IntSl.len hn1 (P := Tryz.prog) Tryz.underlying36, c3]) | (refine OpsW.step ?_ ?_; (focus (simp [wantedA, box_load hb.get Tryz.sh22, Fl.len hf (P := Tryz.prog) Tryz.underlying22, c1, c2, hi1, hl1, IntSl.len hn1 (P := Tryz.prog) Tryz.underlying36, c3]; done)); simp [opV, box_load hb.get Tryz.sh22, Fl.len hf (P := Tryz.prog) Tryz.underlying22, c1, c2, hi1, hl1, IntSl.len hn1 (P := Tryz.prog) Tryz.underlying36, c3]) | (refine OpsW.un ?_ ?_; (focus (simp [wantedA, box_load hb.get Tryz.sh22, Fl.len hf (P := Tryz.prog) Tryz.underlying22, c1, c2, hi1, hl1, IntSl.len hn1 (P := Tryz.prog) Tryz.underlying36, c3]; done))))); (refine OpsW.nil ?_; try simp only [andThen, endBlock]))))
    (refine W.cond true ?_ ?_; (focus (simp; done)); simp only [if_true])
    ((try simp only [andThen, endBlock, if_true]); repeat (first | with_reducible refine W.seq ?_ | with_reducible refine W.block ?_ | (refine W.region (by rfl) ?_; (repeat (first | (refine OpsW.step rfl ?_; simp [opV]; done) | (refine OpsW.step rfl ?_; simp [opV]) | (refine OpsW.step ?_ ?_; (focus (simp [wantedA]; done)); simp [opV]) | (refine OpsW.un ?_ ?_; (focus (simp [wantedA]; done))))); (refine OpsW.nil ?_; try simp only [andThen, endBlock]))))
    (refine W.ret ?_; try simp only [andThen, endBlock])
    refine ⟨.inr rfl, [.bool false], by simp [Tryz.f47, resultsA, resultA], ?_⟩
    exact ⟨.no fun hS => by have := hS.2.2.1; omega, hx⟩
  have c4 : lx nx 1 = [] := List.length_eq_zero_iff.1 (by omega)
  ((try simp only [andThen, endBlock, if_true]); repeat (first | with_reducible refine W.seq ?_ | with_reducible refine W.block ?_ | (refine W.region (by rfl) ?_; (repeat (first | (refine OpsW.step rfl ?_; simp [opV, box_load hb.get Tryz.sh22, Fl.len hf (P := Tryz.prog) Tryz.underlying22, c1, c2, hi1, hl1, IntSl.len hn1 (P := Tryz.prog) Tryz.underlying36, c4]; done) | (refine OpsW.step rfl ?_; simp [opV, box_load hb.get Tryz.sh22, Fl.len hf (P := Tryz.prog) Tryz.underlying22, c1, c2, hi1, hl1, IntSl.len hn1 (P := Tryz.prog) Tryz.underlying36, c4]) | (refine OpsW.step ?_ ?_; (focus (simp [wantedA, box_load hb.get Tryz.sh22, Fl.len hf (P := Tryz.prog) Tryz.underlying22, c1, c2, hi1, hl1, IntSl.len hn1 (P := Tryz.prog) Tryz.underlying36, c4]; done)); simp [opV, box_load hb.get Tryz.sh22, Fl.len hf (P := Tryz.prog) Tryz.underlying22, c1, c2, hi1, hl1, IntSl.len hn1 (P := Tryz.prog) Tryz.underlying36, c4]) | (refine OpsW.un ?_ ?_; (focus (simp [wantedA, box_load hb.get Tryz.sh22, Fl.len hf (P := Tryz.prog) Tryz.underlying22, c1, c2, hi1, hl1, IntSl.len hn1 (P := Tryz.prog) Tryz.underlying36, c4]; done))))); (refine OpsW.nil ?_; try simp only [andThen, endBlock]))))
  (refine W.cond false ?_ ?_; (focus (simp; done)); simp only [Bool.false_eq_true, if_false])
  (refine W.skip ?_; try simp only [andThen, endBlock])
  ((try simp only [andThen, endBlock, if_true]); repeat (first | with_reducible refine W.seq ?_ | with_reducible refine W.block ?_ | (refine W.region (by rfl) ?_; (repeat (first | (refine OpsW.step rfl ?_; simp [opV, box_load hb.get Tryz.sh22, Fl.len hf (P := Tryz.prog) Tryz.underlying22]; done) | (refine OpsW.step rfl ?_; simp [opV, box_load hb.get Tryz.sh22, Fl.len hf (P := Tryz.prog) Tryz.underlying22]) | (refine OpsW.step ?_ ?_; (focus (simp [wantedA, box_load hb.get Tryz.sh22, Fl.len hf (P := Tryz.prog) Tryz.underlying22]; done)); simp [opV, box_load hb.get Tryz.sh22, Fl.len hf (P := Tryz.prog) Tryz.underlying22]) | (refine OpsW.un ?_ ?_; (focus (simp [wantedA, box_load hb.get Tryz.sh22, Fl.len hf (P := Tryz.prog) Tryz.underlying22]; done))))); (refine OpsW.nil ?_; try simp only [andThen, endBlock]))))
  refine W.loop ?_
  refine LW.induct (VlInv B A.next p nx) ?_ _ _ B ⟨0, rfl, Nat.zero_le _, by simp, by simp, by simp, by simp, Ext.refl _, by simp⟩
  rintro k e A1 ⟨i, rfl, hi, e1, e25, e26, e27, hx1, hs⟩
  ((try simp only [andThen, endBlock, if_true]); repeat (first | with_reducible refine W.seq ?_ | with_reducible refine W.block ?_ | (refine W.region (by rfl) ?_; (repeat (first | (refine OpsW.step rfl ?_; simp [opV, e26, e27]; done) | (refine OpsW.step rfl ?_; simp [opV, e26, e27]) | (refine OpsW.step ?_ ?_; (focus (simp [wantedA, e26, e27]; done)); simp [opV, e26, e27]) | (refine OpsW.un ?_ ?_; (focus (simp [wantedA, e26, e27]; done))))); (refine OpsW.nil ?_; try simp only [andThen, endBlock]))))
  by_cases hlt : i < nx.length
  · have hf1 := hf.ext hx1
    (refine W.cond true ?_ ?_; (focus (simp [hlt]; done)); simp only [if_true])
    (refine W.skip ?_; try simp only [andThen, endBlock])
    have hst : storeA Tryz.prog (A1.push (.cells [.int .i64 0, .int .i64 0, .nilslice])) 39 (.ptr A1.next 0) (.agg (pt cs i)) = _ := store_new Tryz.sz39 (by rfl) (by rfl)
    ((try simp only [andThen, endBlock, if_true]); repeat (first | with_reducible refine W.seq ?_ | with_reducible refine W.block ?_ | (refine W.region (by rfl) ?_; (repeat (first | (refine OpsW.step rfl ?_; simp [opV, e25, e27, Fl.idx hf1 Tryz.underlying22 Tryz.sz39 hlt, Fl.whole hf1 Tryz.sh39 hlt, hst]; done) | (refine OpsW.step rfl ?_; simp [opV, e25, e27, Fl.idx hf1 Tryz.underlying22 Tryz.sz39 hlt, Fl.whole hf1 Tryz.sh39 hlt, hst]) | (refine OpsW.step ?_ ?_; (focus (simp [wantedA, e25, e27, Fl.idx hf1 Tryz.underlying22 Tryz.sz39 hlt, Fl.whole hf1 Tryz.sh39 hlt, hst]; done)); simp [opV, e25, e27, Fl.idx hf1 Tryz.underlying22 Tryz.sz39 hlt, Fl.whole hf1 Tryz.sh39 hlt, hst]) | (refine OpsW.un ?_ ?_; (focus (simp [wantedA, e25, e27, Fl.idx hf1 Tryz.underlying22 Tryz.sz39 hlt, Fl.whole hf1 Tryz.sh39 hlt, hst]; done))))); (refine OpsW.nil ?_; try simp only [andThen, endBlock]))))
    have hx2 := hx1.trans (Ext.new A1 (.cells [.int .i64 0, .int .i64 0, .nilslice]) (.cells (pt cs i)))
    have hg := get_new A1 (.cells [.int .i64 0, .int .i64 0, .nilslice]) (.cells (pt cs i))
    have hld : loadA Tryz.prog ((A1.push (.cells [.int .i64 0, .int .i64 0, .nilslice])).put A1.next (.cells (pt cs i))) 36 (.ptr A1.next 2) = some (vx cs (i * 3 + 2)) := cell_load hg Tryz.sh36
    generalize (A1.push (.cells [.int .i64 0, .int .i64 0, .nilslice])).put A1.next (.cells (pt cs i)) = A2 at *
    (refine W.region (by rfl) ?_; (repeat (first | (refine OpsW.step rfl ?_; simp [opV, e1, hld]; done) | (refine OpsW.step rfl ?_; simp [opV, e1, hld]) | (refine OpsW.step ?_ ?_; (focus (simp [wantedA, e1, hld]; done)); simp [opV, e1, hld]) | (refine OpsW.un ?_ ?_; (focus (simp [wantedA, e1, hld]; done))))))
    (refine FnW.mono (contains_spec A2 A.next p nx cs _ _ (hb.ext hx2) (hf.ext hx2) ((hf.ext hx2).el i hlt)) ?_; rintro _ A3 ⟨⟨t, rfl, ht⟩, hA⟩)
    subst hA
    (repeat (first | (refine OpsW.step rfl ?_; simp [opV]; done) | (refine OpsW.step rfl ?_; simp [opV]) | (refine OpsW.step ?_ ?_; (focus (simp [wantedA]; done)); simp [opV]) | (refine OpsW.un ?_ ?_; (focus (simp [wantedA]; done)))))
    (refine OpsW.nil ?_; try simp only [andThen, endBlock])
    cases t with
    | true =>
      (refine W.cond true ?_ ?_; (focus (simp; done)); simp only [if_true])
      ((try simp only [andThen, endBlock, if_true]); repeat (first | with_reducible refine W.seq ?_ | with_reducible refine W.block ?_ | (refine W.region (by rfl) ?_; (repeat (first | (refine OpsW.step rfl ?_; simp [opV]; done) | (refine OpsW.step rfl ?_; simp [opV]) | (refine OpsW.step ?_ ?_; (focus (simp [wantedA]; done)); simp [opV]) | (refine OpsW.un ?_ ?_; (focus (simp [wantedA]; done))))); (refine OpsW.nil ?_; try simp only [andThen, endBlock]))))
      (refine W.ret ?_; try simp only [andThen, endBlock])
      refine ⟨.inr rfl, [.bool false], by simp [Tryz.f47, resultsA, resultA], ?_⟩
      refine ⟨.no fun hS => ?_, hx.trans hx2⟩
      obtain ⟨x, hxm, hb⟩ := ht.1 rfl
      have := hS.2.2.2 i hlt x hxm
      unfold BadP at hb
      omega
    | false =>
      (refine W.cond false ?_ ?_; (focus (simp; done)); simp only [Bool.false_eq_true, if_false])
      (refine W.skip ?_; try simp only [andThen, endBlock])
      ((try simp only [andThen, endBlock, if_true]); repeat (first | with_reducible refine W.seq ?_ | with_reducible refine W.block ?_ | (refine W.region (by rfl) ?_; (repeat (first | (refine OpsW.step rfl ?_; simp [opV, e27]; done) | (refine OpsW.step rfl ?_; simp [opV, e27]) | (refine OpsW.step ?_ ?_; (focus (simp [wantedA, e27]; done)); simp [opV, e27]) | (refine OpsW.un ?_ ?_; (focus (simp [wantedA, e27]; done))))); (refine OpsW.nil ?_; try simp only [andThen, endBlock]))))
      refine ⟨_, ?_, i + 1, rfl, by omega, by simp [e1], by simp [e25], by simp [e26], by simp [wrap_succ hlt h.le], hx2, fun j hj => ?_⟩
      · omega
      · by_cases hji : j = i
        · subst hji
          intro x hxm
          refine Classical.byContradiction fun hn => ?_
          exact Bool.noConfusion (ht.2 ⟨x, hxm, by unfold BadP; omega⟩)
        · exact hs j (by omega)
  · (refine W.cond false ?_ ?_; (focus (simp [hlt]; done)); simp only [Bool.false_eq_true, if_false])
    (refine W.exit ?_; try simp only [andThen, endBlock, if_true])
    ((try simp only [andThen, endBlock, if_true]); repeat (first | with_reducible refine W.seq ?_ | with_reducible refine W.block ?_ | (refine W.region (by rfl) ?_; (repeat (first | (refine OpsW.step rfl ?_; simp [opV]; done) | (refine OpsW.step rfl ?_; simp [opV]) | (refine OpsW.step ?_ ?_; (focus (simp [wantedA]; done)); simp [opV]) | (refine OpsW.un ?_ ?_; (focus (simp [wantedA]; done))))); (refine OpsW.nil ?_; try simp only [andThen, endBlock]))))
    (refine W.ret ?_; try simp only [andThen, endBlock])
    refine ⟨.inr rfl, [.bool true], by simp [Tryz.f47, resultsA, resultA], ?_⟩
    exact ⟨.yes ⟨by omega, by omega, by omega, fun j hj => hs j (by omega)⟩, hx.trans hx1⟩
end Go.Proofs

/-! of, join, pass, list of the program. -/
namespace Go.Proofs
open Go Go.Ab
variable [LoopTab]
theorem quo64 {q w : Nat} (hq : q < 1024) (hw : w = q / 64) : intBin .quo .i64 .i64 (q : Int) 64 = some (.int .i64 (w : Int)) := by subst hw; exact binA_quo (P := Tryz.prog) (T := 3) hq
theorem rem64 {q b : Nat} (hb : b = q % 64) : intBin .rem .i64 .i64 (q : Int) 64 = some (.int .i64 (b : Int)) := by subst hb; exact binA_rem (P := Tryz.prog) (T := 3)
/-- the answer of 'of' -/
def OfAns (l : List Int) (u : AV) : Prop := (¬ IsS l ∧ ∃ N, u = .tup [.agg (words N), .bool false]) ∨ (IsS l ∧ u = .tup [.agg (words (bitsOf l)), .bool true])
def OfInv (A0 : AH) (β β' : Nat) (v : AV) (l : List Int) (k : Nat) (e : En) (A : AH) : Prop := ∃ i : Nat, k = l.length - i ∧ i ≤ l.length ∧ e.get 0 = v ∧ e.get 7 = v ∧ e.get 8 = IV l.length ∧ e.get 9 = IV i ∧ e.get 2 = .ptr β 0 ∧ e.get 4 = .ptr β' 0 ∧ Ext A0 A ∧ WordB A β 0 ∧ WordB A β' (bitsOf (l.take i)) ∧ IsS (l.take i)
theorem of_spec (A : AH) (v : AV) (l : List Int) (h : IntSl A v l) : FnW Tryz.prog 48 [v] A fun u A' => OfAns l u ∧ Ext A A' := by
  refine FnW.body Tryz.func48 (by decide) rfl Tryz.ntmps48 ?_
  generalize hE : bindArgs _ 0 _ = E
  have a0 := (congrArg (fun e => En.get e 0) hE).symm
  simp [bindArgs, kept, En.get_bind] at a0
  clear hE
  refine W.seq ?_
  (refine W.region (by rfl) ?_; (repeat (first | (refine OpsW.step rfl ?_; simp [opV]; done) | (refine OpsW.step rfl ?_; simp [opV]) | (refine OpsW.step ?_ ?_; (focus (simp [wantedA]; done)); simp [opV]) | (refine OpsW.un ?_ ?_; (focus (simp [wantedA]; done))))); (refine OpsW.nil ?_; try simp only [andThen, endBlock]))
  refine W.seq ?_
  (refine W.region (by rfl) ?_; (repeat (first | (refine OpsW.step rfl ?_; simp [opV]; done) | (refine OpsW.step rfl ?_; simp [opV]) | (refine OpsW.step ?_ ?_; (focus (simp [wantedA]; done)); simp [opV]) | (refine OpsW.un ?_ ?_; (focus (simp [wantedA]; done))))); (refine OpsW.nil ?_; try simp only [andThen, endBlock]))
  have hx0 := (Ext.box A (.cells (words 0))).push (.cells (words 0))
  have hw2 : WordB ((A.push (.cells (words 0))).push (.cells (words 0))) A.next 0 := (WordB.new A 0).ext (Ext.box _ _)
  have hw4 : WordB ((A.push (.cells (words 0))).push (.cells (words 0))) (A.push (.cells (words 0))).next 0 := WordB.new _ 0
  have hne : A.next ≠ (A.push (.cells (words 0))).next := Nat.ne_of_lt (Nat.lt_succ_self _)
  have hge : A.next ≤ (A.push (.cells (words 0))).next := Nat.le_succ _
  generalize (A.push (.cells (words 0))).push (.cells (words 0)) = B at *
  generalize (A.push (.cells (words 0))).next = β' at *
  ((try simp only [andThen, endBlock, if_true]); repeat (first | with_reducible refine W.seq ?_ | with_reducible refine W.block ?_ | (refine W.region (by rfl) ?_; (repeat (first | (refine OpsW.step rfl ?_; simp [opV, a0, IntSl.len (h.ext hx0) (P := Tryz.prog) Tryz.underlying36]; done) | (refine OpsW.step rfl ?_; simp [opV, a0, IntSl.len (h.ext hx0) (P := Tryz.prog) Tryz.underlying36]) | (refine OpsW.step ?_ ?_; (focus (simp [wantedA, a0, IntSl.len (h.ext hx0) (P := Tryz.prog) Tryz.underlying36]; done)); simp [opV, a0, IntSl.len (h.ext hx0) (P := Tryz.prog) Tryz.underlying36]) | (refine OpsW.un ?_ ?_; (focus (simp [wantedA, a0, IntSl.len (h.ext hx0) (P := Tryz.prog) Tryz.underlying36]; done))))); (refine OpsW.nil ?_; try simp only [andThen, endBlock]))))
  refine W.loop ?_
  refine LW.induct (OfInv A A.next β' v l) ?_ _ _ B ⟨0, rfl, Nat.zero_le _, by simp [a0], by simp, by simp, by simp, by simp, by simp, hx0, hw2, by simpa [bitsOf] using hw4, by simp [IsS]⟩
  clear hw2 hw4 hx0
  rintro k e A1 ⟨i, rfl, hi, e0, e7, e8, e9, e2, e4, hx, hw2, hw4, hs⟩
  have h1 := h.ext hx
  ((try simp only [andThen, endBlock, if_true]); repeat (first | with_reducible refine W.seq ?_ | with_reducible refine W.block ?_ | (refine W.region (by rfl) ?_; (repeat (first | (refine OpsW.step rfl ?_; simp [opV, e8, e9]; done) | (refine OpsW.step rfl ?_; simp [opV, e8, e9]) | (refine OpsW.step ?_ ?_; (focus (simp [wantedA, e8, e9]; done)); simp [opV, e8, e9]) | (refine OpsW.un ?_ ?_; (focus (simp [wantedA, e8, e9]; done))))); (refine OpsW.nil ?_; try simp only [andThen, endBlock]))))
  by_cases hlt : i < l.length
  · (refine W.cond true ?_ ?_; (focus (simp [hlt]; done)); simp only [if_true])
    (refine W.skip ?_; try simp only [andThen, endBlock])
    refine W.seq ?_
    refine W.block ?_
    refine W.seq ?_
    (refine W.region (by rfl) ?_; (repeat (first | (refine OpsW.step rfl ?_; simp [opV, e7, e9, IntSl.idx h1 Tryz.underlying36 Tryz.sz3 hlt, IntSl.load h1 Tryz.sh3 hlt]; done) | (refine OpsW.step rfl ?_; simp [opV, e7, e9, IntSl.idx h1 Tryz.underlying36 Tryz.sz3 hlt, IntSl.load h1 Tryz.sh3 hlt]) | (refine OpsW.step ?_ ?_; (focus (simp [wantedA, e7, e9, IntSl.idx h1 Tryz.underlying36 Tryz.sz3 hlt, IntSl.load h1 Tryz.sh3 hlt]; done)); simp [opV, e7, e9, IntSl.idx h1 Tryz.underlying36 Tryz.sz3 hlt, IntSl.load h1 Tryz.sh3 hlt]) | (refine OpsW.un ?_ ?_; (focus (simp [wantedA, e7, e9, IntSl.idx h1 Tryz.underlying36 Tryz.sz3 hlt, IntSl.load h1 Tryz.sh3 hlt]; done))))); (refine OpsW.nil ?_; try simp only [andThen, endBlock]))
    refine W.seq ?_
    refine W.seq ?_
    have hbad : ¬ (0 ≤ ix l i ∧ ix l i < 1024 ∧ (0 < i → ix l (i - 1) < ix l i)) → ¬ IsS l := fun hn hS => hn ⟨(hS.2 _ (ix_mem hlt)).1, (hS.2 _ (ix_mem hlt)).2, fun h0 => sorted_ix hS.1 (by omega) hlt⟩
    have hfail : ¬ IsS l → ∀ N, OfAns l (.tup [.agg (words N), .bool false]) := fun hn N => .inl ⟨hn, N, rfl⟩
    have hst : storeA Tryz.prog A1 75 (.ptr A.next 0) (.agg (words (bitsOf (l.take i)))) = _ := hw2.store Tryz.sz75
    have hst2 : WordB (A1.put A.next (.cells (words (bitsOf (l.take i))))) A.next (bitsOf (l.take i)) := WordB.put _ _ hw2.lt
    have hx2 : Ext A (A1.put A.next (.cells (words (bitsOf (l.take i))))) := hx.put (Nat.le_refl _) _
    by_cases c1 : ix l i < 0
    · (refine W.region (by rfl) ?_; (repeat (first | (refine OpsW.step rfl ?_; simp [opV, c1]; done) | (refine OpsW.step rfl ?_; simp [opV, c1]) | (refine OpsW.step ?_ ?_; (focus (simp [wantedA, c1]; done)); simp [opV, c1]) | (refine OpsW.un ?_ ?_; (focus (simp [wantedA, c1]; done))))); (refine OpsW.nil ?_; try simp only [andThen, endBlock]))
      (refine W.cond true ?_ ?_; (focus (simp; done)); simp only [if_true])
      ((try simp only [andThen, endBlock, if_true]); repeat (first | with_reducible refine W.seq ?_ | with_reducible refine W.block ?_ | (refine W.region (by rfl) ?_; (repeat (first | (refine OpsW.step rfl ?_; simp [opV, e4, e2, hw4.whole Tryz.sh75, hst]; done) | (refine OpsW.step rfl ?_; simp [opV, e4, e2, hw4.whole Tryz.sh75, hst]) | (refine OpsW.step ?_ ?_; (focus (simp [wantedA, e4, e2, hw4.whole Tryz.sh75, hst]; done)); simp [opV, e4, e2, hw4.whole Tryz.sh75, hst]) | (refine OpsW.un ?_ ?_; (focus (simp [wantedA, e4, e2, hw4.whole Tryz.sh75, hst]; done))))); (refine OpsW.nil ?_; try simp only [andThen, endBlock]))))
      (refine W.ret ?_; try simp only [andThen, endBlock])
      refine ⟨.inr rfl, [.agg (words (bitsOf (l.take i))), .bool false], by simp [Tryz.f48, resultsA, resultA, e2, hst2.whole Tryz.sh75], ?_⟩
      exact ⟨hfail (hbad (by omega)) _, hx2⟩
    by_cases c2 : 1024 ≤ ix l i
    · (refine W.region (by rfl) ?_; (repeat (first | (refine OpsW.step rfl ?_; simp [opV, c1, c2]; done) | (refine OpsW.step rfl ?_; simp [opV, c1, c2]) | (refine OpsW.step ?_ ?_; (focus (simp [wantedA, c1, c2]; done)); simp [opV, c1, c2]) | (refine OpsW.un ?_ ?_; (focus (simp [wantedA, c1, c2]; done))))); (refine OpsW.nil ?_; try simp only [andThen, endBlock]))
      (refine W.cond true ?_ ?_; (focus (simp; done)); simp only [if_true])
      ((try simp only [andThen, endBlock, if_true]); repeat (first | with_reducible refine W.seq ?_ | with_reducible refine W.block ?_ | (refine W.region (by rfl) ?_; (repeat (first | (refine OpsW.step rfl ?_; simp [opV, e4, e2, hw4.whole Tryz.sh75, hst]; done) | (refine OpsW.step rfl ?_; simp [opV, e4, e2, hw4.whole Tryz.sh75, hst]) | (refine OpsW.step ?_ ?_; (focus (simp [wantedA, e4, e2, hw4.whole Tryz.sh75, hst]; done)); simp [opV, e4, e2, hw4.whole Tryz.sh75, hst]) | (refine OpsW.un ?_ ?_; (focus (simp [wantedA, e4, e2, hw4.whole Tryz.sh75, hst]; done))))); (refine OpsW.nil ?_; try simp only [andThen, endBlock]))))
      (refine W.ret ?_; try simp only [andThen, endBlock])
      refine ⟨.inr rfl, [.agg (words (bitsOf (l.take i))), .bool false], by simp [Tryz.f48, resultsA, resultA, e2, hst2.whole Tryz.sh75], ?_⟩
      exact ⟨hfail (hbad (by omega)) _, hx2⟩
    have hrest : (0 < i → ix l (i - 1) < ix l i) → IsS (l.take (i + 1)) := fun hh => isS_succ hlt hs (by omega) (by omega) hh
    obtain ⟨q, hq⟩ : ∃ q : Nat, ix l i = (q : Int) := ⟨(ix l i).toNat, by omega⟩
    have hq1 : q < 1024 := by omega
    obtain ⟨w, hw⟩ : ∃ w, w = q / 64 := ⟨_, rfl⟩
    obtain ⟨b, hb⟩ : ∃ b, b = q % 64 := ⟨_, rfl⟩
    have hw16 : w < 16 := by omega
    have hb64 : b < 64 := by omega
    have hbits : (words (bitsOf (l.take i))).set w (U (word (bitsOf (l.take i)) w ||| 2 ^ b)) = words (bitsOf (l.take (i + 1))) := by
      rw [take_ix hlt, bitsOf_append, hq, Int.toNat_natCast]
      subst hw; subst hb
      exact words_or_pow
    have hor : binA Tryz.prog .or 73 (U (word (bitsOf (l.take i)) w)) (U (2 ^ b)) = _ := binA_or (word_lt _ _) (Nat.pow_lt_pow_right (by omega) hb64)
    have hwst : storeA Tryz.prog A1 73 (.ptr β' w) (U (word (bitsOf (l.take i)) w ||| 2 ^ b)) = _ := hw4.wstore Tryz.sz73 hw16 hbits
    have hx3 : Ext A (A1.put β' (.cells (words (bitsOf (l.take (i + 1)))))) := hx.put hge _
    by_cases c3 : 0 < i
    · have hlt' : i - 1 < l.length := by omega
      by_cases c4 : ix l i ≤ ix l (i - 1)
      · (refine W.region (by rfl) ?_; (repeat (first | (refine OpsW.step rfl ?_; simp [opV, e0, c1, c2, c3, wrap_pred c3 hlt h.2, IntSl.idx h1 Tryz.underlying36 Tryz.sz3 hlt', IntSl.load h1 Tryz.sh3 hlt', c4]; done) | (refine OpsW.step rfl ?_; simp [opV, e0, c1, c2, c3, wrap_pred c3 hlt h.2, IntSl.idx h1 Tryz.underlying36 Tryz.sz3 hlt', IntSl.load h1 Tryz.sh3 hlt', c4]) | (refine OpsW.step ?_ ?_; (focus (simp [wantedA, e0, c1, c2, c3, wrap_pred c3 hlt h.2, IntSl.idx h1 Tryz.underlying36 Tryz.sz3 hlt', IntSl.load h1 Tryz.sh3 hlt', c4]; done)); simp [opV, e0, c1, c2, c3, wrap_pred c3 hlt h.2, IntSl.idx h1 Tryz.underlying36 Tryz.sz3 hlt', IntSl.load h1 Tryz.sh3 hlt', c4]) | (refine OpsW.un ?_ ?_; (focus (simp [wantedA, e0, c1, c2, c3, wrap_pred c3 hlt h.2, IntSl.idx h1 Tryz.underlying36 Tryz.sz3 hlt', IntSl.load h1 Tryz.sh3 hlt', c4]; done))))); (refine OpsW.nil ?_; try simp only [andThen, endBlock]))
        (refine W.cond true ?_ ?_; (focus (simp; done)); simp only [if_true])
        ((try simp only [andThen, endBlock, if_true]); repeat (first | with_reducible refine W.seq ?_ | with_reducible refine W.block ?_ | (refine W.region (by rfl) ?_; (repeat (first | (refine OpsW.step rfl ?_; simp [opV, e4, e2, hw4.whole Tryz.sh75, hst]; done) | (refine OpsW.step rfl ?_; simp [opV, e4, e2, hw4.whole Tryz.sh75, hst]) | (refine OpsW.step ?_ ?_; (focus (simp [wantedA, e4, e2, hw4.whole Tryz.sh75, hst]; done)); simp [opV, e4, e2, hw4.whole Tryz.sh75, hst]) | (refine OpsW.un ?_ ?_; (focus (simp [wantedA, e4, e2, hw4.whole Tryz.sh75, hst]; done))))); (refine OpsW.nil ?_; try simp only [andThen, endBlock]))))
        (refine W.ret ?_; try simp only [andThen, endBlock])
        refine ⟨.inr rfl, [.agg (words (bitsOf (l.take i))), .bool false], by simp [Tryz.f48, resultsA, resultA, e2, hst2.whole Tryz.sh75], ?_⟩
        exact ⟨hfail (hbad (by omega)) _, hx2⟩
      · (refine W.region (by rfl) ?_; (repeat (first | (refine OpsW.step rfl ?_; simp [opV, e0, c1, c2, c3, wrap_pred c3 hlt h.2, IntSl.idx h1 Tryz.underlying36 Tryz.sz3 hlt', IntSl.load h1 Tryz.sh3 hlt', c4]; done) | (refine OpsW.step rfl ?_; simp [opV, e0, c1, c2, c3, wrap_pred c3 hlt h.2, IntSl.idx h1 Tryz.underlying36 Tryz.sz3 hlt', IntSl.load h1 Tryz.sh3 hlt', c4]) | (refine OpsW.step ?_ ?_; (focus (simp [wantedA, e0, c1, c2, c3, wrap_pred c3 hlt h.2, IntSl.idx h1 Tryz.underlying36 Tryz.sz3 hlt', IntSl.load h1 Tryz.sh3 hlt', c4]; done)); simp [opV, e0, c1, c2, c3, wrap_pred c3 hlt h.2, IntSl.idx h1 Tryz.underlying36 Tryz.sz3 hlt', IntSl.load h1 Tryz.sh3 hlt', c4]) | (refine OpsW.un ?_ ?_; (focus (simp [wantedA, e0, c1, c2, c3, wrap_pred c3 hlt h.2, IntSl.idx h1 Tryz.underlying36 Tryz.sz3 hlt', IntSl.load h1 Tryz.sh3 hlt', c4]; done))))); (refine OpsW.nil ?_; try simp only [andThen, endBlock]))
        (refine W.cond false ?_ ?_; (focus (simp; done)); simp only [Bool.false_eq_true, if_false])
        (refine W.skip ?_; try simp only [andThen, endBlock])
        (refine W.drawnS mixedP self0_ok [(0, 0), (1, 0), (2, 0), (3, 0), (4, 0), (5, 0), (6, 0), (7, 0), (8, 0), (9, 0)] (by rfl) (by kernel_rfl) ?_; (repeat (first | (refine RSW.step rfl rfl ?_; simp [stepV, cls, e4, hq, quo64 hq1 hw, rem64 hb, binA_shl hb64, idxW Tryz.underlying75 Tryz.sz73 hw16, hw4.word Tryz.sh73 hw16, hor, hwst]) | (refine RSW.step rfl ?_ ?_; (focus (simp [wantedA, e4, hq, quo64 hq1 hw, rem64 hb, binA_shl hb64, idxW Tryz.underlying75 Tryz.sz73 hw16, hw4.word Tryz.sh73 hw16, hor, hwst]; done)); simp [stepV, cls, e4, hq, quo64 hq1 hw, rem64 hb, binA_shl hb64, idxW Tryz.underlying75 Tryz.sz73 hw16, hw4.word Tryz.sh73 hw16, hor, hwst]) | (refine RSW.un rfl ?_ ?_ ?_; (focus (simp [wantedA, e4, hq, quo64 hq1 hw, rem64 hb, binA_shl hb64, idxW Tryz.underlying75 Tryz.sz73 hw16, hw4.word Tryz.sh73 hw16, hor, hwst]; done)); (focus (simp [cls]; done))))); refine RSW.nil ?_; try simp only [andThen, endBlock])
        ((try simp only [andThen, endBlock, if_true]); repeat (first | with_reducible refine W.seq ?_ | with_reducible refine W.block ?_ | (refine W.region (by rfl) ?_; (repeat (first | (refine OpsW.step rfl ?_; simp [opV, e9]; done) | (refine OpsW.step rfl ?_; simp [opV, e9]) | (refine OpsW.step ?_ ?_; (focus (simp [wantedA, e9]; done)); simp [opV, e9]) | (refine OpsW.un ?_ ?_; (focus (simp [wantedA, e9]; done))))); (refine OpsW.nil ?_; try simp only [andThen, endBlock]))))
        exact ⟨_, by omega, i + 1, rfl, by omega, by simp [e0], by simp [e7], by simp [e8], by simp [wrap_succ hlt h.2], by simp [e2], by simp [e4], hx3, hw2.other hne _, WordB.put _ _ hw4.lt, hrest fun _ => by omega⟩
    · (refine W.region (by rfl) ?_; (repeat (first | (refine OpsW.step rfl ?_; simp [opV, c1, c2, c3]; done) | (refine OpsW.step rfl ?_; simp [opV, c1, c2, c3]) | (refine OpsW.step ?_ ?_; (focus (simp [wantedA, c1, c2, c3]; done)); simp [opV, c1, c2, c3]) | (refine OpsW.un ?_ ?_; (focus (simp [wantedA, c1, c2, c3]; done))))); (refine OpsW.nil ?_; try simp only [andThen, endBlock]))
      (refine W.cond false ?_ ?_; (focus (simp; done)); simp only [Bool.false_eq_true, if_false])
      (refine W.skip ?_; try simp only [andThen, endBlock])
      (refine W.drawnS mixedP self0_ok [(0, 0), (1, 0), (2, 0), (3, 0), (4, 0), (5, 0), (6, 0), (7, 0), (8, 0), (9, 0)] (by rfl) (by kernel_rfl) ?_; (repeat (first | (refine RSW.step rfl rfl ?_; simp [stepV, cls, e4, hq, quo64 hq1 hw, rem64 hb, binA_shl hb64, idxW Tryz.underlying75 Tryz.sz73 hw16, hw4.word Tryz.sh73 hw16, hor, hwst]) | (refine RSW.step rfl ?_ ?_; (focus (simp [wantedA, e4, hq, quo64 hq1 hw, rem64 hb, binA_shl hb64, idxW Tryz.underlying75 Tryz.sz73 hw16, hw4.word Tryz.sh73 hw16, hor, hwst]; done)); simp [stepV, cls, e4, hq, quo64 hq1 hw, rem64 hb, binA_shl hb64, idxW Tryz.underlying75 Tryz.sz73 hw16, hw4.word Tryz.sh73 hw16, hor, hwst]) | (refine RSW.un rfl ?_ ?_ ?_; (focus (simp [wantedA, e4, hq, quo64 hq1 hw, rem64 hb, binA_shl hb64, idxW Tryz.underlying75 Tryz.sz73 hw16, hw4.word Tryz.sh73 hw16, hor, hwst]; done)); (focus (simp [cls]; done))))); refine RSW.nil ?_; try simp only [andThen, endBlock])
      ((try simp only [andThen, endBlock, if_true]); repeat (first | with_reducible refine W.seq ?_ | with_reducible refine W.block ?_ | (refine W.region (by rfl) ?_; (repeat (first | (refine OpsW.step rfl ?_; simp [opV, e9]; done) | (refine OpsW.step rfl ?_; simp [opV, e9]) | (refine OpsW.step ?_ ?_; (focus (simp [wantedA, e9]; done)); simp [opV, e9]) | (refine OpsW.un ?_ ?_; (focus (simp [wantedA, e9]; done))))); (refine OpsW.nil ?_; try simp only [andThen, endBlock]))))
      exact ⟨_, by omega, i + 1, rfl, by omega, by simp [e0], by simp [e7], by simp [e8], by simp [wrap_succ hlt h.2], by simp [e2], by simp [e4], hx3, hw2.other hne _, WordB.put _ _ hw4.lt, hrest fun hh => absurd hh c3⟩
  · (refine W.cond false ?_ ?_; (focus (simp [hlt]; done)); simp only [Bool.false_eq_true, if_false])
    (refine W.exit ?_; try simp only [andThen, endBlock, if_true])
    rw [List.take_of_length_le (by omega)] at hs hw4
    have hst : storeA Tryz.prog A1 75 (.ptr A.next 0) (.agg (words (bitsOf l))) = _ := hw2.store Tryz.sz75
    have hst2 : WordB (A1.put A.next (.cells (words (bitsOf l)))) A.next (bitsOf l) := WordB.put _ _ hw2.lt
    ((try simp only [andThen, endBlock, if_true]); repeat (first | with_reducible refine W.seq ?_ | with_reducible refine W.block ?_ | (refine W.region (by rfl) ?_; (repeat (first | (refine OpsW.step rfl ?_; simp [opV, e4, e2, hw4.whole Tryz.sh75, hst]; done) | (refine OpsW.step rfl ?_; simp [opV, e4, e2, hw4.whole Tryz.sh75, hst]) | (refine OpsW.step ?_ ?_; (focus (simp [wantedA, e4, e2, hw4.whole Tryz.sh75, hst]; done)); simp [opV, e4, e2, hw4.whole Tryz.sh75, hst]) | (refine OpsW.un ?_ ?_; (focus (simp [wantedA, e4, e2, hw4.whole Tryz.sh75, hst]; done))))); (refine OpsW.nil ?_; try simp only [andThen, endBlock]))))
    (refine W.ret ?_; try simp only [andThen, endBlock])
    refine ⟨.inr rfl, [.agg (words (bitsOf l)), .bool true], by simp [Tryz.f48, resultsA, resultA, e2, hst2.whole Tryz.sh75], ?_⟩
    exact ⟨.inr ⟨hs, rfl⟩, hx.put (Nat.le_refl _) _⟩
end Go.Proofs

/-! join, pass, list of the program. -/
namespace Go.Proofs
open Go Go.Ab
/-- only the block β has changed -/
def Only (A A' : AH) (β : Nat) : Prop := A'.next = A.next ∧ ∀ γ, γ ≠ β → A'.get γ = A.get γ
theorem Only.refl (A : AH) (β : Nat) : Only A A β := ⟨rfl, fun _ _ => rfl⟩
theorem Only.put {A A' : AH} {β : Nat} (h : Only A A' β) (x : AObj) : Only A (A'.put β x) β := ⟨h.1, fun γ hγ => by rw [AH.get_put, if_neg hγ]; exact h.2 γ hγ⟩
theorem Only.ext {A A' : AH} {β : Nat} {A0 : AH} (h : Only A A' β) (hx : Ext A0 A) (hβ : A0.next ≤ β) : Ext A0 A' := ⟨by rw [h.1]; exact hx.1, fun γ hγ => by rw [h.2 γ (by omega)]; exact hx.2 γ hγ⟩
theorem Only.arr {A A' : AH} {β γ n : Nat} {f : Nat → Nat} (h : Only A A' β) (k : ArrB A γ n f) (hne : γ ≠ β) : ArrB A' γ n f := ⟨by rw [h.2 γ hne]; exact k.get, by rw [h.1]; exact k.lt⟩
variable [LoopTab]
def JoinInv (A0 : AH) (β β' n i j : Nat) (f g : Nat → Nat) (m : Nat) (e : En) (A : AH) : Prop := ∃ k : Nat, m = 16 - k ∧ k ≤ 16 ∧ e.get 0 = .ptr β (i * 16) ∧ e.get 1 = .ptr β' (j * 16) ∧ e.get 5 = IV k ∧ Only A0 A β ∧ ArrB A β n (updF f i (mixin (f i) (g j) k)) ∧ ArrB A β' n g
theorem updF_self (f : Nat → Nat) (i : Nat) : updF f i (f i) = f := by
  funext k
  by_cases h : k = i
  · subst h; rw [updF_same]
  · rw [updF_other h]
theorem updF_twice (f : Nat → Nat) (i a b : Nat) : updF (updF f i a) i b = updF f i b := by
  funext k
  by_cases h : k = i
  · subst h; rw [updF_same, updF_same]
  · rw [updF_other h, updF_other h, updF_other h]
theorem join_spec (A : AH) (β β' n i j : Nat) (f g : Nat → Nat) (hf : ArrB A β n f) (hg : ArrB A β' n g) (hne : β' ≠ β) (hi : i < n) (hj : j < n) (hlt : g j < 2 ^ 1024) : FnW Tryz.prog 30 [.ptr β (i * 16), .ptr β' (j * 16)] A fun u A' => u = .tup [] ∧ Only A A' β ∧ ArrB A' β n (updF f i (f i ||| g j)) := by
  refine FnW.body Tryz.func30 (by decide) rfl Tryz.ntmps30 ?_
  generalize hE : bindArgs _ 0 _ = E
  have a0 := (congrArg (fun e => En.get e 0) hE).symm
  simp [bindArgs, kept, En.get_bind] at a0
  have a1 := (congrArg (fun e => En.get e 1) hE).symm
  simp [bindArgs, kept, En.get_bind] at a1
  clear hE
  ((try simp only [andThen, endBlock, if_true]); repeat (first | with_reducible refine W.seq ?_ | with_reducible refine W.block ?_ | (refine W.region (by rfl) ?_; (repeat (first | (refine OpsW.step rfl ?_; simp [opV]; done) | (refine OpsW.step rfl ?_; simp [opV]) | (refine OpsW.step ?_ ?_; (focus (simp [wantedA]; done)); simp [opV]) | (refine OpsW.un ?_ ?_; (focus (simp [wantedA]; done))))); (refine OpsW.nil ?_; try simp only [andThen, endBlock]))))
  refine W.loop ?_
  refine LW.induct (JoinInv A β β' n i j f g) ?_ _ _ A ⟨0, rfl, Nat.zero_le _, by simp [a0], by simp [a1], by simp, Only.refl _ _, by rw [mixin_zero, updF_self]; exact hf, hg⟩
  rintro m e A1 ⟨k, rfl, hk, e0, e1, e5, ho, h1, h2⟩
  ((try simp only [andThen, endBlock, if_true]); repeat (first | with_reducible refine W.seq ?_ | with_reducible refine W.block ?_ | (refine W.region (by rfl) ?_; (repeat (first | (refine OpsW.step rfl ?_; simp [opV, e5]; done) | (refine OpsW.step rfl ?_; simp [opV, e5]) | (refine OpsW.step ?_ ?_; (focus (simp [wantedA, e5]; done)); simp [opV, e5]) | (refine OpsW.un ?_ ?_; (focus (simp [wantedA, e5]; done))))); (refine OpsW.nil ?_; try simp only [andThen, endBlock]))))
  by_cases hkt : k < 16
  · (refine W.cond true ?_ ?_; (focus (simp [show (k : Int) < 16 by omega]; done)); simp only [if_true])
    (refine W.skip ?_; try simp only [andThen, endBlock])
    ((try simp only [andThen, endBlock, if_true]); repeat (first | with_reducible refine W.seq ?_ | with_reducible refine W.block ?_ | (refine W.region (by rfl) ?_; (repeat (first | (refine OpsW.step rfl ?_; simp [opV, e5]; done) | (refine OpsW.step rfl ?_; simp [opV, e5]) | (refine OpsW.step ?_ ?_; (focus (simp [wantedA, e5]; done)); simp [opV, e5]) | (refine OpsW.un ?_ ?_; (focus (simp [wantedA, e5]; done))))); (refine OpsW.nil ?_; try simp only [andThen, endBlock]))))
    have hbits : (words (updF f i (mixin (f i) (g j) k) i)).set k (U (word (mixin (f i) (g j) k) k ||| word (g j) k)) = words (mixin (f i) (g j) (k + 1)) := by rw [updF_same]; exact words_mixin
    have hor : binA Tryz.prog .or 73 (U (word (mixin (f i) (g j) k) k)) (U (word (g j) k)) = _ := binA_or (word_lt _ _) (word_lt _ _)
    have hld : loadA Tryz.prog A1 73 (.ptr β (i * 16 + k)) = some (U (word (mixin (f i) (g j) k) k)) := by
      have := h1.word Tryz.sh73 hi hkt; rwa [updF_same] at this
    have hst := h1.wstore (P := Tryz.prog) Tryz.sz73 hi hkt hbits
    rw [updF_twice] at hst
    (refine W.drawnS mixedP self0_ok [(0, 0), (1, 0), (2, 0), (3, 0), (4, 0), (5, 0), (6, 0), (7, 0), (8, 0), (9, 0), (10, 0), (11, 0), (12, 0), (13, 0)] (by rfl) (by kernel_rfl) ?_; (repeat (first | (refine RSW.step rfl rfl ?_; simp [stepV, cls, e0, e1, idxW Tryz.underlying75 Tryz.sz73 hkt, hld, h2.word Tryz.sh73 hj hkt, hor, hst]) | (refine RSW.step rfl ?_ ?_; (focus (simp [wantedA, e0, e1, idxW Tryz.underlying75 Tryz.sz73 hkt, hld, h2.word Tryz.sh73 hj hkt, hor, hst]; done)); simp [stepV, cls, e0, e1, idxW Tryz.underlying75 Tryz.sz73 hkt, hld, h2.word Tryz.sh73 hj hkt, hor, hst]) | (refine RSW.un rfl ?_ ?_ ?_; (focus (simp [wantedA, e0, e1, idxW Tryz.underlying75 Tryz.sz73 hkt, hld, h2.word Tryz.sh73 hj hkt, hor, hst]; done)); (focus (simp [cls]; done))))); refine RSW.nil ?_; try simp only [andThen, endBlock])
    ((try simp only [andThen, endBlock, if_true]); repeat (first | with_reducible refine W.seq ?_ | with_reducible refine W.block ?_ | (refine W.region (by rfl) ?_; (repeat (first | (refine OpsW.step rfl ?_; simp [opV, e5]; done) | (refine OpsW.step rfl ?_; simp [opV, e5]) | (refine OpsW.step ?_ ?_; (focus (simp [wantedA, e5]; done)); simp [opV, e5]) | (refine OpsW.un ?_ ?_; (focus (simp [wantedA, e5]; done))))); (refine OpsW.nil ?_; try simp only [andThen, endBlock]))))
    exact ⟨_, by omega, k + 1, rfl, by omega, by simp [e0], by simp [e1], by simp [wrap_succ hkt (by rw [Most_eq]; omega)], ho.put _, ArrB.put _ _ _ h1.lt, h2.other hne _⟩
  · (refine W.cond false ?_ ?_; (focus (simp [show ¬ (k : Int) < 16 by omega]; done)); simp only [Bool.false_eq_true, if_false])
    (refine W.exit ?_; try simp only [andThen, endBlock, if_true])
    have : k = 16 := by omega
    subst this
    rw [mixin_all hlt] at h1
    exact ⟨.inl rfl, [], by simp [Tryz.f30, resultsA], rfl, ho, h1⟩

def PassInv (A0 : AH) (β β1 β2 β3 n i j m : Nat) (c6 : Nat) (f g h : Nat → Nat) (q : Nat) (e : En) (A : AH) : Prop := ∃ k : Nat, q = 16 - k ∧ k ≤ 16 ∧ e.get 0 = .ptr β1 (i * 16) ∧ e.get 1 = .ptr β2 (j * 16) ∧ e.get 2 = .ptr β3 (m * 16) ∧ e.get 6 = .ptr c6 0 ∧ e.get 7 = .ptr β 0 ∧ e.get 9 = IV k ∧ Ext A0 A ∧ WordB A c6 0 ∧ WordB A β (thr (f i) (h m) (g j) % 2 ^ (64 * k))
theorem pass_spec (A : AH) (β1 β2 β3 n i j m : Nat) (f g h : Nat → Nat) (hf : ArrB A β1 n f) (hg : ArrB A β2 n g) (hh : ArrB A β3 n h) (hi : i < n) (hj : j < n) (hm : m < n) (hlt : f i < 2 ^ 1024) (hlt3 : h m < 2 ^ 1024) :
    FnW Tryz.prog 31 [.ptr β1 (i * 16), .ptr β2 (j * 16), .ptr β3 (m * 16)] A fun u A' => u = .agg (words (thr (f i) (h m) (g j))) ∧ Ext A A' := by
  refine FnW.body Tryz.func31 (by decide) rfl Tryz.ntmps31 ?_
  generalize hE : bindArgs _ 0 _ = E
  have a0 := (congrArg (fun e => En.get e 0) hE).symm
  simp [bindArgs, kept, En.get_bind] at a0
  have a1 := (congrArg (fun e => En.get e 1) hE).symm
  simp [bindArgs, kept, En.get_bind] at a1
  have a2 := (congrArg (fun e => En.get e 2) hE).symm
  simp [bindArgs, kept, En.get_bind] at a2
  clear hE
  refine W.seq ?_
  (refine W.region (by rfl) ?_; (repeat (first | (refine OpsW.step rfl ?_; simp [opV]; done) | (refine OpsW.step rfl ?_; simp [opV]) | (refine OpsW.step ?_ ?_; (focus (simp [wantedA]; done)); simp [opV]) | (refine OpsW.un ?_ ?_; (focus (simp [wantedA]; done))))); (refine OpsW.nil ?_; try simp only [andThen, endBlock]))
  refine W.seq ?_
  (refine W.region (by rfl) ?_; (repeat (first | (refine OpsW.step rfl ?_; simp [opV]; done) | (refine OpsW.step rfl ?_; simp [opV]) | (refine OpsW.step ?_ ?_; (focus (simp [wantedA]; done)); simp [opV]) | (refine OpsW.un ?_ ?_; (focus (simp [wantedA]; done))))); (refine OpsW.nil ?_; try simp only [andThen, endBlock]))
  have hx0 := (Ext.box A (.cells (words 0))).push (.cells (words 0))
  have hw2 : WordB ((A.push (.cells (words 0))).push (.cells (words 0))) A.next 0 := (WordB.new A 0).ext (Ext.box _ _)
  have hw4 : WordB ((A.push (.cells (words 0))).push (.cells (words 0))) (A.push (.cells (words 0))).next 0 := WordB.new _ 0
  have hne : A.next ≠ (A.push (.cells (words 0))).next := Nat.ne_of_lt (Nat.lt_succ_self _)
  have hge : A.next ≤ (A.push (.cells (words 0))).next := Nat.le_succ _
  generalize (A.push (.cells (words 0))).push (.cells (words 0)) = B at *
  generalize (A.push (.cells (words 0))).next = β' at *
  ((try simp only [andThen, endBlock, if_true]); repeat (first | with_reducible refine W.seq ?_ | with_reducible refine W.block ?_ | (refine W.region (by rfl) ?_; (repeat (first | (refine OpsW.step rfl ?_; simp [opV]; done) | (refine OpsW.step rfl ?_; simp [opV]) | (refine OpsW.step ?_ ?_; (focus (simp [wantedA]; done)); simp [opV]) | (refine OpsW.un ?_ ?_; (focus (simp [wantedA]; done))))); (refine OpsW.nil ?_; try simp only [andThen, endBlock]))))
  refine W.mono (Q := fun x e A' => x = .exit 0 ∧ e.get 6 = .ptr A.next 0 ∧ e.get 7 = .ptr β' 0 ∧ Ext A A' ∧ WordB A' A.next 0 ∧ WordB A' β' (thr (f i) (h m) (g j))) ?_ ?_
  · refine W.loop ?_
    refine LW.induct (PassInv A β' β1 β2 β3 n i j m A.next f g h) ?_ _ _ B ⟨0, rfl, Nat.zero_le _, by simp [a0], by simp [a1], by simp [a2], by simp, by simp, by simp, hx0, hw2, by simpa [Nat.mod_one] using hw4⟩
    clear hw2 hw4 hx0
    rintro q e A1 ⟨k, rfl, hk, e0, e1, e2, e6, e7, e9, hx, hw2, hw4⟩
    ((try simp only [andThen, endBlock, if_true]); repeat (first | with_reducible refine W.seq ?_ | with_reducible refine W.block ?_ | (refine W.region (by rfl) ?_; (repeat (first | (refine OpsW.step rfl ?_; simp [opV, e9]; done) | (refine OpsW.step rfl ?_; simp [opV, e9]) | (refine OpsW.step ?_ ?_; (focus (simp [wantedA, e9]; done)); simp [opV, e9]) | (refine OpsW.un ?_ ?_; (focus (simp [wantedA, e9]; done))))); (refine OpsW.nil ?_; try simp only [andThen, endBlock]))))
    by_cases hkt : k < 16
    · (refine W.cond true ?_ ?_; (focus (simp [show (k : Int) < 16 by omega]; done)); simp only [if_true])
      (refine W.skip ?_; try simp only [andThen, endBlock])
      ((try simp only [andThen, endBlock, if_true]); repeat (first | with_reducible refine W.seq ?_ | with_reducible refine W.block ?_ | (refine W.region (by rfl) ?_; (repeat (first | (refine OpsW.step rfl ?_; simp [opV, e9]; done) | (refine OpsW.step rfl ?_; simp [opV, e9]) | (refine OpsW.step ?_ ?_; (focus (simp [wantedA, e9]; done)); simp [opV, e9]) | (refine OpsW.un ?_ ?_; (focus (simp [wantedA, e9]; done))))); (refine OpsW.nil ?_; try simp only [andThen, endBlock]))))
      have hor : binA Tryz.prog .or 73 (U (word (f i) k ^^^ (word (f i) k &&& word (g j) k))) (U (word (h m) k)) = some (U (word (thr (f i) (h m) (g j)) k)) := by
        rw [word_thr]
        exact binA_or (Nat.xor_lt_two_pow (word_lt _ _) (Nat.lt_of_le_of_lt Nat.and_le_left (word_lt _ _))) (word_lt _ _)
      have han : binA Tryz.prog .andNot 73 (U (word (f i) k)) (U (word (g j) k)) = _ := binA_andNot (word_lt _ _) (word_lt _ _)
      have hst := hw4.wstore (P := Tryz.prog) Tryz.sz73 hkt (words_thr (T := thr (f i) (h m) (g j)))
      have hi75 : idxV Tryz.prog 75 (.ptr β' 0) (.int .i64 (k : Int)) = some (.ptr β' k) := by simpa using idxW (P := Tryz.prog) (o := 0) (β := β') (k := .i64) Tryz.underlying75 Tryz.sz73 hkt
      (refine W.drawnS mixedP self0_ok [(0, 0), (1, 0), (2, 0), (3, 0), (4, 0), (5, 0), (6, 0), (7, 0), (8, 0), (9, 0), (10, 0), (11, 0), (12, 0), (13, 0), (14, 0), (15, 0), (16, 0), (17, 0), (18, 0), (19, 0)] (by rfl) (by kernel_rfl) ?_; (repeat (first | (refine RSW.step rfl rfl ?_; simp [stepV, cls, e0, e1, e2, e7, hi75, idxW Tryz.underlying75 Tryz.sz73 hkt, (hf.ext hx).word Tryz.sh73 hi hkt, (hg.ext hx).word Tryz.sh73 hj hkt, (hh.ext hx).word Tryz.sh73 hm hkt, han, hor, hst]) | (refine RSW.step rfl ?_ ?_; (focus (simp [wantedA, e0, e1, e2, e7, hi75, idxW Tryz.underlying75 Tryz.sz73 hkt, (hf.ext hx).word Tryz.sh73 hi hkt, (hg.ext hx).word Tryz.sh73 hj hkt, (hh.ext hx).word Tryz.sh73 hm hkt, han, hor, hst]; done)); simp [stepV, cls, e0, e1, e2, e7, hi75, idxW Tryz.underlying75 Tryz.sz73 hkt, (hf.ext hx).word Tryz.sh73 hi hkt, (hg.ext hx).word Tryz.sh73 hj hkt, (hh.ext hx).word Tryz.sh73 hm hkt, han, hor, hst]) | (refine RSW.un rfl ?_ ?_ ?_; (focus (simp [wantedA, e0, e1, e2, e7, hi75, idxW Tryz.underlying75 Tryz.sz73 hkt, (hf.ext hx).word Tryz.sh73 hi hkt, (hg.ext hx).word Tryz.sh73 hj hkt, (hh.ext hx).word Tryz.sh73 hm hkt, han, hor, hst]; done)); (focus (simp [cls]; done))))); refine RSW.nil ?_; try simp only [andThen, endBlock])
      ((try simp only [andThen, endBlock, if_true]); repeat (first | with_reducible refine W.seq ?_ | with_reducible refine W.block ?_ | (refine W.region (by rfl) ?_; (repeat (first | (refine OpsW.step rfl ?_; simp [opV, e9]; done) | (refine OpsW.step rfl ?_; simp [opV, e9]) | (refine OpsW.step ?_ ?_; (focus (simp [wantedA, e9]; done)); simp [opV, e9]) | (refine OpsW.un ?_ ?_; (focus (simp [wantedA, e9]; done))))); (refine OpsW.nil ?_; try simp only [andThen, endBlock]))))
      exact ⟨_, by omega, k + 1, rfl, by omega, by simp [e0], by simp [e1], by simp [e2], by simp [e6], by simp [e7], by simp [wrap_succ hkt (by rw [Most_eq]; omega)], hx.put hge _, hw2.other hne _, WordB.put _ _ hw4.lt⟩
    · (refine W.cond false ?_ ?_; (focus (simp [show ¬ (k : Int) < 16 by omega]; done)); simp only [Bool.false_eq_true, if_false])
      (refine W.exit ?_; try simp only [andThen, endBlock, if_true])
      have : k = 16 := by omega
      subst this
      rw [show (64 * 16 : Nat) = 1024 from rfl, mod_ltN (n := 1024) (thr_lt hlt hlt3)] at hw4
      exact ⟨by simp, by simp [e6], by simp [e7], hx, hw2, hw4⟩
  · rintro x e A1 ⟨rfl, e6, e7, hx, hw2, hw4⟩
    have hst := hw2.store (P := Tryz.prog) (M := thr (f i) (h m) (g j)) Tryz.sz75
    have hst2 : WordB (A1.put A.next (.cells (words (thr (f i) (h m) (g j))))) A.next (thr (f i) (h m) (g j)) := WordB.put _ _ hw2.lt
    ((try simp only [andThen, endBlock, if_true]); repeat (first | with_reducible refine W.seq ?_ | with_reducible refine W.block ?_ | (refine W.region (by rfl) ?_; (repeat (first | (refine OpsW.step rfl ?_; simp [opV, e6, e7, hw4.whole Tryz.sh75, hst]; done) | (refine OpsW.step rfl ?_; simp [opV, e6, e7, hw4.whole Tryz.sh75, hst]) | (refine OpsW.step ?_ ?_; (focus (simp [wantedA, e6, e7, hw4.whole Tryz.sh75, hst]; done)); simp [opV, e6, e7, hw4.whole Tryz.sh75, hst]) | (refine OpsW.un ?_ ?_; (focus (simp [wantedA, e6, e7, hw4.whole Tryz.sh75, hst]; done))))); (refine OpsW.nil ?_; try simp only [andThen, endBlock]))))
    (refine W.ret ?_; try simp only [andThen, endBlock])
    refine ⟨.inr rfl, [.agg (words (thr (f i) (h m) (g j)))], by simp [Tryz.f31, resultsA, resultA, e6, hst2.whole Tryz.sh75], ?_⟩
    exact ⟨rfl, hx.put (Nat.le_refl _) _⟩
end Go.Proofs

/-! list, lists, sets of the program. -/
namespace Go.Proofs
open Go Go.Ab
def lstk (N k : Nat) : List Int := ((List.range k).filter fun i => N.testBit i).map fun (i : Nat) => (i : Int)
theorem lstk_succ (N k : Nat) : lstk N (k + 1) = if N.testBit k then lstk N k ++ [(k : Int)] else lstk N k := by
  rw [lstk, List.range_succ, List.filter_append, List.map_append]
  cases h : N.testBit k <;> simp [h, lstk]
theorem lstk_all (N : Nat) : lstk N 1024 = lst N := (lst_eq N).symm
theorem lstk_length (N k : Nat) : (lstk N k).length ≤ k := by
  rw [lstk, List.length_map]
  exact Nat.le_trans (List.length_filter_le _ _) (by simp)
variable [LoopTab]
def ListInv (A0 : AH) (β n i : Nat) (f : Nat → Nat) (m : Nat) (e : En) (A : AH) : Prop := ∃ k : Nat, m = 1024 - k ∧ k ≤ 1024 ∧ e.get 0 = .ptr β (i * 16) ∧ e.get 5 = IV k ∧ Ext A0 A ∧ OwnI A0 A (e.get 3) (lstk (f i) k)
theorem list_spec (A : AH) (β n i : Nat) (f : Nat → Nat) (hf : ArrB A β n f) (hi : i < n) : FnW Tryz.prog 49 [.ptr β (i * 16)] A fun u A' => OwnI A A' u (lst (f i)) ∧ Ext A A' := by
  refine FnW.body Tryz.func49 (by decide) rfl Tryz.ntmps49 ?_
  generalize hE : bindArgs _ 0 _ = E
  have a0 := (congrArg (fun e => En.get e 0) hE).symm
  simp [bindArgs, kept, En.get_bind] at a0
  clear hE
  ((try simp only [andThen, endBlock, if_true]); repeat (first | with_reducible refine W.seq ?_ | with_reducible refine W.block ?_ | (refine W.region (by rfl) ?_; (repeat (first | (refine OpsW.step rfl ?_; simp [opV]; done) | (refine OpsW.step rfl ?_; simp [opV]) | (refine OpsW.step ?_ ?_; (focus (simp [wantedA]; done)); simp [opV]) | (refine OpsW.un ?_ ?_; (focus (simp [wantedA]; done))))); (refine OpsW.nil ?_; try simp only [andThen, endBlock]))))
  refine W.loop ?_
  refine LW.induct (ListInv A β n i f) ?_ _ _ A ⟨0, rfl, Nat.zero_le _, by simp [a0], by simp, Ext.refl _, by simp; exact .inl ⟨rfl, rfl⟩⟩
  rintro m e A1 ⟨k, rfl, hk, e0, e5, hx, hown⟩
  ((try simp only [andThen, endBlock, if_true]); repeat (first | with_reducible refine W.seq ?_ | with_reducible refine W.block ?_ | (refine W.region (by rfl) ?_; (repeat (first | (refine OpsW.step rfl ?_; simp [opV, e5]; done) | (refine OpsW.step rfl ?_; simp [opV, e5]) | (refine OpsW.step ?_ ?_; (focus (simp [wantedA, e5]; done)); simp [opV, e5]) | (refine OpsW.un ?_ ?_; (focus (simp [wantedA, e5]; done))))); (refine OpsW.nil ?_; try simp only [andThen, endBlock]))))
  by_cases hkt : k < 1024
  · (refine W.cond true ?_ ?_; (focus (simp [show (k : Int) < 1024 by omega]; done)); simp only [if_true])
    (refine W.skip ?_; try simp only [andThen, endBlock])
    obtain ⟨w, hw⟩ : ∃ w, w = k / 64 := ⟨_, rfl⟩
    obtain ⟨b, hb⟩ : ∃ b, b = k % 64 := ⟨_, rfl⟩
    have hw16 : w < 16 := by omega
    have hb64 : b < 64 := by omega
    have han : binA Tryz.prog .and 73 (U (word (f i) w >>> b)) (U 1) = _ := binA_and (Nat.lt_of_le_of_lt (by rw [Nat.shiftRight_eq_div_pow]; exact Nat.div_le_self _ _) (word_lt _ _)) (by omega)
    have hbit : (word (f i) w).testBit b = (f i).testBit k := by
      subst hw; subst hb
      rw [testBit_word]
      simp only [hb64, decide_true, Bool.true_and, Nat.div_add_mod]
    have hls := lstk_succ (f i) k
    refine W.seq ?_
    refine W.block ?_
    refine W.seq ?_
    (refine W.region (by rfl) ?_; (repeat (first | (refine OpsW.step rfl ?_; simp [opV, e5]; done) | (refine OpsW.step rfl ?_; simp [opV, e5]) | (refine OpsW.step ?_ ?_; (focus (simp [wantedA, e5]; done)); simp [opV, e5]) | (refine OpsW.un ?_ ?_; (focus (simp [wantedA, e5]; done))))); (refine OpsW.nil ?_; try simp only [andThen, endBlock]))
    refine W.seq ?_
    (refine W.region (by rfl) ?_; (repeat (first | (refine OpsW.step rfl ?_; simp [opV, e0, e5, quo64 hkt hw, rem64 hb, idxW Tryz.underlying75 Tryz.sz73 hw16, (hf.ext hx).word Tryz.sh73 hi hw16, binA_shr hb64, han, binA_eqU]; done) | (refine OpsW.step rfl ?_; simp [opV, e0, e5, quo64 hkt hw, rem64 hb, idxW Tryz.underlying75 Tryz.sz73 hw16, (hf.ext hx).word Tryz.sh73 hi hw16, binA_shr hb64, han, binA_eqU]) | (refine OpsW.step ?_ ?_; (focus (simp [wantedA, e0, e5, quo64 hkt hw, rem64 hb, idxW Tryz.underlying75 Tryz.sz73 hw16, (hf.ext hx).word Tryz.sh73 hi hw16, binA_shr hb64, han, binA_eqU]; done)); simp [opV, e0, e5, quo64 hkt hw, rem64 hb, idxW Tryz.underlying75 Tryz.sz73 hw16, (hf.ext hx).word Tryz.sh73 hi hw16, binA_shr hb64, han, binA_eqU]) | (refine OpsW.un ?_ ?_; (focus (simp [wantedA, e0, e5, quo64 hkt hw, rem64 hb, idxW Tryz.underlying75 Tryz.sz73 hw16, (hf.ext hx).word Tryz.sh73 hi hw16, binA_shr hb64, han, binA_eqU]; done))))); (refine OpsW.nil ?_; try simp only [andThen, endBlock]))
    cases hq : (f i).testBit k with
    | true =>
      rw [hq] at hls
      obtain ⟨v', A2, g1, g2, g3⟩ := append_int (k : Int) hown hx (by have := lstk_length (f i) k; omega)
      (refine W.cond true ?_ ?_; (focus (simp [hbit, hq]; done)); simp only [if_true])
      ((try simp only [andThen, endBlock, if_true]); repeat (first | with_reducible refine W.seq ?_ | with_reducible refine W.block ?_ | (refine W.region (by rfl) ?_; (repeat (first | (refine OpsW.step rfl ?_; simp [opV, allocL_slice1, opA_append, g1]; done) | (refine OpsW.step rfl ?_; simp [opV, allocL_slice1, opA_append, g1]) | (refine OpsW.step ?_ ?_; (focus (simp [wantedA, allocL_slice1, opA_append, g1]; done)); simp [opV, allocL_slice1, opA_append, g1]) | (refine OpsW.un ?_ ?_; (focus (simp [wantedA, allocL_slice1, opA_append, g1]; done))))); (refine OpsW.nil ?_; try simp only [andThen, endBlock]))))
      ((try simp only [andThen, endBlock, if_true]); repeat (first | with_reducible refine W.seq ?_ | with_reducible refine W.block ?_ | (refine W.region (by rfl) ?_; (repeat (first | (refine OpsW.step rfl ?_; simp [opV, e5]; done) | (refine OpsW.step rfl ?_; simp [opV, e5]) | (refine OpsW.step ?_ ?_; (focus (simp [wantedA, e5]; done)); simp [opV, e5]) | (refine OpsW.un ?_ ?_; (focus (simp [wantedA, e5]; done))))); (refine OpsW.nil ?_; try simp only [andThen, endBlock]))))
      exact ⟨_, by omega, k + 1, rfl, by omega, by simp [e0], by simp [wrap_succ hkt (by rw [Most_eq]; omega)], g3, by rw [hls]; simpa using g2⟩
    | false =>
      rw [hq] at hls
      (refine W.cond false ?_ ?_; (focus (simp [hbit, hq]; done)); simp only [Bool.false_eq_true, if_false])
      (refine W.skip ?_; try simp only [andThen, endBlock])
      ((try simp only [andThen, endBlock, if_true]); repeat (first | with_reducible refine W.seq ?_ | with_reducible refine W.block ?_ | (refine W.region (by rfl) ?_; (repeat (first | (refine OpsW.step rfl ?_; simp [opV, e5]; done) | (refine OpsW.step rfl ?_; simp [opV, e5]) | (refine OpsW.step ?_ ?_; (focus (simp [wantedA, e5]; done)); simp [opV, e5]) | (refine OpsW.un ?_ ?_; (focus (simp [wantedA, e5]; done))))); (refine OpsW.nil ?_; try simp only [andThen, endBlock]))))
      exact ⟨_, by omega, k + 1, rfl, by omega, by simp [e0], by simp [wrap_succ hkt (by rw [Most_eq]; omega)], hx, by rw [hls]; simpa using hown⟩
  · (refine W.cond false ?_ ?_; (focus (simp [show ¬ (k : Int) < 1024 by omega]; done)); simp only [Bool.false_eq_true, if_false])
    (refine W.exit ?_; try simp only [andThen, endBlock, if_true])
    have : k = 1024 := by omega
    subst this
    rw [lstk_all] at hown
    ((try simp only [andThen, endBlock, if_true]); repeat (first | with_reducible refine W.seq ?_ | with_reducible refine W.block ?_ | (refine W.region (by rfl) ?_; (repeat (first | (refine OpsW.step rfl ?_; simp [opV]; done) | (refine OpsW.step rfl ?_; simp [opV]) | (refine OpsW.step ?_ ?_; (focus (simp [wantedA]; done)); simp [opV]) | (refine OpsW.un ?_ ?_; (focus (simp [wantedA]; done))))); (refine OpsW.nil ?_; try simp only [andThen, endBlock]))))
    (refine W.ret ?_; try simp only [andThen, endBlock])
    refine ⟨.inr rfl, [e.get 3], by simp [Tryz.f49, resultsA, resultA], ?_⟩
    exact ⟨hown, hx⟩
def LssInv (A0 : AH) (β β' n : Nat) (f : Nat → Nat) (m : Nat) (e : En) (A : AH) : Prop := ∃ i : Nat, ∃ cs, m = n - i ∧ i ≤ n ∧ e.get 0 = .slice β 0 n n true 16 ∧ e.get 3 = .slice β' 0 n n true 1 ∧ e.get 9 = IV n ∧ e.get 10 = IV i ∧ Ext A0 A ∧ ArrV A β' n cs (fun j => if j < i then f j else 0) β' β'
theorem plists_spec (A : AH) (β n : Nat) (f : Nat → Nat) (hf : ArrB A β n f) (hn : n ≤ 1024) (hlt : ∀ i, i < n → f i < 2 ^ 1024) : FnW Tryz.prog 32 [.slice β 0 n n true 16] A fun u A' => (∃ ws, LL A' u (rows n f) ws) ∧ Ext A A' := by
  refine FnW.body Tryz.func32 (by decide) rfl Tryz.ntmps32 ?_
  generalize hE : bindArgs _ 0 _ = E
  have a0 := (congrArg (fun e => En.get e 0) hE).symm
  simp [bindArgs, kept, En.get_bind] at a0
  clear hE
  have hmk : mkV Tryz.prog 25 (.int .i64 (n : Int)) (.int .i64 (n : Int)) = some (.slc n n 1, .cells (List.replicate n [.nilslice]).flatten) := mkV_of Tryz.underlying25 Tryz.zc36 Tryz.sz36 rfl Tryz.ob36 (by omega)
  have hlen : lenV Tryz.prog A 69 (.slice β 0 n n true 16) = some (.int .i64 (n : Int)) := lenV_slice Tryz.underlying69 _ _ _ _ _ _
  refine W.seq ?_
  (refine W.region (by rfl) ?_; (repeat (first | (refine OpsW.step rfl ?_; simp [opV]; done) | (refine OpsW.step rfl ?_; simp [opV]) | (refine OpsW.step ?_ ?_; (focus (simp [wantedA]; done)); simp [opV]) | (refine OpsW.un ?_ ?_; (focus (simp [wantedA]; done))))); (refine OpsW.nil ?_; try simp only [andThen, endBlock]))
  refine W.seq ?_
  (refine W.region (by rfl) ?_; (repeat (first | (refine OpsW.step rfl ?_; simp [opV, a0, hlen, allocL_mk, hmk]; done) | (refine OpsW.step rfl ?_; simp [opV, a0, hlen, allocL_mk, hmk]) | (refine OpsW.step ?_ ?_; (focus (simp [wantedA, a0, hlen, allocL_mk, hmk]; done)); simp [opV, a0, hlen, allocL_mk, hmk]) | (refine OpsW.un ?_ ?_; (focus (simp [wantedA, a0, hlen, allocL_mk, hmk]; done))))); (refine OpsW.nil ?_; try simp only [andThen, endBlock]))
  have hpos : 0 < A.next := Nat.lt_of_le_of_lt (Nat.zero_le _) hf.lt
  have hz : ArrV (A.push (.cells (List.replicate n [AV.nilslice]).flatten)) A.next n _ (fun _ => 0) A.next A.next := ArrV.zero (get_box _) (Nat.lt_succ_self _) hpos hpos
  simp only [List.flatten_replicate_singleton] at hz
  have hx0 := Ext.box A (.cells (List.replicate n AV.nilslice))
  generalize A.push (.cells (List.replicate n AV.nilslice)) = B at *
  have hlen2 : lenV Tryz.prog B 69 (.slice β 0 n n true 16) = some (.int .i64 (n : Int)) := lenV_slice Tryz.underlying69 _ _ _ _ _ _
  ((try simp only [andThen, endBlock, if_true]); repeat (first | with_reducible refine W.seq ?_ | with_reducible refine W.block ?_ | (refine W.region (by rfl) ?_; (repeat (first | (refine OpsW.step rfl ?_; simp [opV, a0, hlen2]; done) | (refine OpsW.step rfl ?_; simp [opV, a0, hlen2]) | (refine OpsW.step ?_ ?_; (focus (simp [wantedA, a0, hlen2]; done)); simp [opV, a0, hlen2]) | (refine OpsW.un ?_ ?_; (focus (simp [wantedA, a0, hlen2]; done))))); (refine OpsW.nil ?_; try simp only [andThen, endBlock]))))
  refine W.loop ?_
  refine LW.induct (LssInv A β A.next n f) ?_ _ _ B ⟨0, _, rfl, Nat.zero_le _, by simp [a0], by simp, by simp, by simp, hx0, by simpa using hz⟩
  clear hz hx0 hlen hlen2 hmk
  rintro m e A1 ⟨i, cs, rfl, hi, e0, e3, e9, e10, hx, ha⟩
  ((try simp only [andThen, endBlock, if_true]); repeat (first | with_reducible refine W.seq ?_ | with_reducible refine W.block ?_ | (refine W.region (by rfl) ?_; (repeat (first | (refine OpsW.step rfl ?_; simp [opV, e9, e10]; done) | (refine OpsW.step rfl ?_; simp [opV, e9, e10]) | (refine OpsW.step ?_ ?_; (focus (simp [wantedA, e9, e10]; done)); simp [opV, e9, e10]) | (refine OpsW.un ?_ ?_; (focus (simp [wantedA, e9, e10]; done))))); (refine OpsW.nil ?_; try simp only [andThen, endBlock]))))
  by_cases hlt' : i < n
  · (refine W.cond true ?_ ?_; (focus (simp [hlt']; done)); simp only [if_true])
    (refine W.skip ?_; try simp only [andThen, endBlock])
    ((try simp only [andThen, endBlock, if_true]); repeat (first | with_reducible refine W.seq ?_ | with_reducible refine W.block ?_ | (refine W.region (by rfl) ?_; (repeat (first | (refine OpsW.step rfl ?_; simp [opV, e10]; done) | (refine OpsW.step rfl ?_; simp [opV, e10]) | (refine OpsW.step ?_ ?_; (focus (simp [wantedA, e10]; done)); simp [opV, e10]) | (refine OpsW.un ?_ ?_; (focus (simp [wantedA, e10]; done))))); (refine OpsW.nil ?_; try simp only [andThen, endBlock]))))
    (refine W.region (by rfl) ?_; (repeat (first | (refine OpsW.step rfl ?_; simp [opV, e0, e3, ArrB.idx Tryz.underlying69 Tryz.sz75 hlt']; done) | (refine OpsW.step rfl ?_; simp [opV, e0, e3, ArrB.idx Tryz.underlying69 Tryz.sz75 hlt']) | (refine OpsW.step ?_ ?_; (focus (simp [wantedA, e0, e3, ArrB.idx Tryz.underlying69 Tryz.sz75 hlt']; done)); simp [opV, e0, e3, ArrB.idx Tryz.underlying69 Tryz.sz75 hlt']) | (refine OpsW.un ?_ ?_; (focus (simp [wantedA, e0, e3, ArrB.idx Tryz.underlying69 Tryz.sz75 hlt']; done))))))
    (refine FnW.mono (list_spec A1 β n i f (hf.ext hx) hlt') ?_; rintro u A2 ⟨g1, g2⟩)
    have ha2 := ha.ext g2
    have hs : SetV A2 u (f i) := ⟨g1.sl (Nat.le_trans (lst_length _) (by rw [Most_eq]; omega)), hlt i hlt'⟩
    have hpb : pb u ≠ A.next := by
      rcases g1 with ⟨rfl, _⟩ | ⟨γ, q, ex, rfl, _, _, h3, _⟩
      · exact Nat.ne_of_lt hpos
      · have := ha.lt; simp only [pb_slice]; omega
    have hst := ha2.store (P := Tryz.prog) Tryz.sz36 hs.cells hlt'
    (repeat (first | (refine OpsW.step rfl ?_; simp [opV, e0, e3, ha2.idx Tryz.underlying25 Tryz.sz36 hlt', hst]; done) | (refine OpsW.step rfl ?_; simp [opV, e0, e3, ha2.idx Tryz.underlying25 Tryz.sz36 hlt', hst]) | (refine OpsW.step ?_ ?_; (focus (simp [wantedA, e0, e3, ha2.idx Tryz.underlying25 Tryz.sz36 hlt', hst]; done)); simp [opV, e0, e3, ha2.idx Tryz.underlying25 Tryz.sz36 hlt', hst]) | (refine OpsW.un ?_ ?_; (focus (simp [wantedA, e0, e3, ha2.idx Tryz.underlying25 Tryz.sz36 hlt', hst]; done)))))
    (refine OpsW.nil ?_; try simp only [andThen, endBlock])
    ((try simp only [andThen, endBlock, if_true]); repeat (first | with_reducible refine W.seq ?_ | with_reducible refine W.block ?_ | (refine W.region (by rfl) ?_; (repeat (first | (refine OpsW.step rfl ?_; simp [opV, e10]; done) | (refine OpsW.step rfl ?_; simp [opV, e10]) | (refine OpsW.step ?_ ?_; (focus (simp [wantedA, e10]; done)); simp [opV, e10]) | (refine OpsW.un ?_ ?_; (focus (simp [wantedA, e10]; done))))); (refine OpsW.nil ?_; try simp only [andThen, endBlock]))))
    refine ⟨n - (i + 1), ?_, i + 1, cs.set i u, rfl, by omega, by simp [e0], by simp [e3], by simp [e9], by simp [wrap_succ hlt' (by rw [Most_eq]; omega)], (hx.trans g2).put (Nat.le_refl _) _, ?_⟩
    · omega
    · have := ha2.put hs hpb hpb (.inl rfl) hlt'
      have he : updF (fun j => if j < i then f j else 0) i (f i) = fun j => if j < i + 1 then f j else 0 := by
        funext j
        by_cases hj : j = i
        · subst hj; rw [updF_same, if_pos (by omega)]
        · rw [updF_other hj]
          by_cases h2 : j < i
          · rw [if_pos h2, if_pos (by omega)]
          · rw [if_neg h2, if_neg (by omega)]
      rw [he] at this
      exact this
  · (refine W.cond false ?_ ?_; (focus (simp [hlt']; done)); simp only [Bool.false_eq_true, if_false])
    (refine W.exit ?_; try simp only [andThen, endBlock, if_true])
    ((try simp only [andThen, endBlock, if_true]); repeat (first | with_reducible refine W.seq ?_ | with_reducible refine W.block ?_ | (refine W.region (by rfl) ?_; (repeat (first | (refine OpsW.step rfl ?_; simp [opV, e3]; done) | (refine OpsW.step rfl ?_; simp [opV, e3]) | (refine OpsW.step ?_ ?_; (focus (simp [wantedA, e3]; done)); simp [opV, e3]) | (refine OpsW.un ?_ ?_; (focus (simp [wantedA, e3]; done))))); (refine OpsW.nil ?_; try simp only [andThen, endBlock]))))
    (refine W.ret ?_; try simp only [andThen, endBlock])
    refine ⟨.inr rfl, [.slice A.next 0 n n true 1], by simp [Tryz.f32, resultsA, resultA], ?_⟩
    have hi' : i = n := by omega
    subst hi'
    have hl := ha.LL (by rw [Most_eq]; omega)
    have he : rows i (fun j => if j < i then f j else 0) = rows i f := rows_congr fun a ha => if_pos ha
    rw [he] at hl
    exact ⟨⟨cs, hl⟩, hx⟩
end Go.Proofs
