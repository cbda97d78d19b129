import Derived.Test.YtmaclibfncchgaaGreatDoorOurA
set_option linter.all false
/-! sets of the program, and the two functions of Solve. -/
namespace Go.Proofs
open Go Go.Ab
theorem bcells_zero (n : Nat) : bcells n (fun _ => 0) = (List.replicate n (words 0)).flatten := by
  rw [bcells]
  congr 1
  refine List.ext_getElem? fun j => ?_
  by_cases hj : j < n <;> simp [hj]
variable [LoopTab]
/-- the answer of sets -/
def PSetsAns (A0 : AH) (ls : List (List Int)) (n : Nat) (u : AV) (A : AH) : Prop := (¬ SetsL ls n ∧ ∃ x, u = .tup [x, .bool false]) ∨ (SetsL ls n ∧ ∃ β, u = .tup [.slice β 0 n n true 16, .bool true] ∧ ArrB A β n (GK ls) ∧ A0.next ≤ β)
def PSInv (A0 : AH) (β : Nat) (v : AV) (ls : List (List Int)) (n : Nat) (m : Nat) (e : En) (A : AH) : Prop := ∃ i : Nat, m = n - i ∧ i ≤ n ∧ e.get 17 = v ∧ e.get 18 = IV n ∧ e.get 19 = IV i ∧ e.get 6 = .slice β 0 n n true 16 ∧ Ext A0 A ∧ ArrB A β n (fun j => if j < i then GK ls j else 0) ∧ ∀ j, j < i → IsS (lx ls j)
theorem psets_spec (A : AH) (v : AV) (ls : List (List Int)) (vs : List AV) (n : Nat) (h : LL A v ls vs) (hn : n ≤ 1024) : FnW Tryz.prog 27 [v, IV n] A fun u A' => PSetsAns A ls n u A' ∧ Ext A A' := by
  refine FnW.body Tryz.func27 (by decide) rfl Tryz.ntmps27 ?_
  generalize hE : bindArgs _ 0 _ = E
  have a0 := (congrArg (fun e => En.get e 0) hE).symm
  simp [bindArgs, kept, En.get_bind] at a0
  have a1 := (congrArg (fun e => En.get e 1) hE).symm
  simp [bindArgs, kept, En.get_bind] at a1
  clear hE
  refine W.seq ?_
  (refine W.region (by rfl) ?_; (repeat (first | (refine OpsW.step rfl ?_; simp [opV]; done) | (refine OpsW.step rfl ?_; simp [opV]) | (refine OpsW.step ?_ ?_; (focus (simp [wantedA]; done)); simp [opV]) | (refine OpsW.un ?_ ?_; (focus (simp [wantedA]; done))))); (refine OpsW.nil ?_; try simp only [andThen, endBlock]))
  by_cases hm : (ls.length : Int) = n
  rotate_left
  · ((try simp only [andThen, endBlock, if_true]); repeat (first | with_reducible refine W.seq ?_ | with_reducible refine W.block ?_ | (refine W.region (by rfl) ?_; (repeat (first | (refine OpsW.step rfl ?_; simp [opV, a0, a1, LL.len h (P := Tryz.prog) Tryz.underlying25]; done) | (refine OpsW.step rfl ?_; simp [opV, a0, a1, LL.len h (P := Tryz.prog) Tryz.underlying25]) | (refine OpsW.step ?_ ?_; (focus (simp [wantedA, a0, a1, LL.len h (P := Tryz.prog) Tryz.underlying25]; done)); simp [opV, a0, a1, LL.len h (P := Tryz.prog) Tryz.underlying25]) | (refine OpsW.un ?_ ?_; (focus (simp [wantedA, a0, a1, LL.len h (P := Tryz.prog) Tryz.underlying25]; done))))); (refine OpsW.nil ?_; try simp only [andThen, endBlock]))))
    (refine W.cond true ?_ ?_; (focus (simp [hm]; done)); simp only [if_true])
    ((try simp only [andThen, endBlock, if_true]); repeat (first | with_reducible refine W.seq ?_ | with_reducible refine W.block ?_ | (refine W.region (by rfl) ?_; (repeat (first | (refine OpsW.step rfl ?_; simp [opV]; done) | (refine OpsW.step rfl ?_; simp [opV]) | (refine OpsW.step ?_ ?_; (focus (simp [wantedA]; done)); simp [opV]) | (refine OpsW.un ?_ ?_; (focus (simp [wantedA]; done))))); (refine OpsW.nil ?_; try simp only [andThen, endBlock]))))
    (refine W.ret ?_; try simp only [andThen, endBlock])
    refine ⟨.inr rfl, [.nilslice, .bool false], by simp [Tryz.f27, resultsA, resultA], ?_⟩
    exact ⟨.inl ⟨fun hS => hm (by rw [hS.1]), _, rfl⟩, Ext.refl _⟩
  ((try simp only [andThen, endBlock, if_true]); repeat (first | with_reducible refine W.seq ?_ | with_reducible refine W.block ?_ | (refine W.region (by rfl) ?_; (repeat (first | (refine OpsW.step rfl ?_; simp [opV, a0, a1, LL.len h (P := Tryz.prog) Tryz.underlying25]; done) | (refine OpsW.step rfl ?_; simp [opV, a0, a1, LL.len h (P := Tryz.prog) Tryz.underlying25]) | (refine OpsW.step ?_ ?_; (focus (simp [wantedA, a0, a1, LL.len h (P := Tryz.prog) Tryz.underlying25]; done)); simp [opV, a0, a1, LL.len h (P := Tryz.prog) Tryz.underlying25]) | (refine OpsW.un ?_ ?_; (focus (simp [wantedA, a0, a1, LL.len h (P := Tryz.prog) Tryz.underlying25]; done))))); (refine OpsW.nil ?_; try simp only [andThen, endBlock]))))
  (refine W.cond false ?_ ?_; (focus (simp [hm]; done)); simp only [Bool.false_eq_true, if_false])
  (refine W.skip ?_; try simp only [andThen, endBlock])
  have hmk : mkV Tryz.prog 69 (.int .i64 (n : Int)) (.int .i64 (n : Int)) = some (.slc n n 16, .cells (List.replicate n (words 0)).flatten) := mkV_of Tryz.underlying69 Tryz.zcW Tryz.sz75 (words_length 0) Tryz.ob75 (by omega)
  rw [← bcells_zero] at hmk
  refine W.seq ?_
  (refine W.region (by rfl) ?_; (repeat (first | (refine OpsW.step rfl ?_; simp [opV, a1, allocL_mk, hmk]; done) | (refine OpsW.step rfl ?_; simp [opV, a1, allocL_mk, hmk]) | (refine OpsW.step ?_ ?_; (focus (simp [wantedA, a1, allocL_mk, hmk]; done)); simp [opV, a1, allocL_mk, hmk]) | (refine OpsW.un ?_ ?_; (focus (simp [wantedA, a1, allocL_mk, hmk]; done))))); (refine OpsW.nil ?_; try simp only [andThen, endBlock]))
  have hz : ArrB (A.push (.cells (bcells n fun _ => 0))) A.next n (fun _ => 0) := ⟨get_box _, Nat.lt_succ_self _⟩
  have hx0 := Ext.box A (.cells (bcells n fun _ => 0))
  have h0 := h.ext hx0
  generalize A.push (.cells (bcells n fun _ => 0)) = B at *
  ((try simp only [andThen, endBlock, if_true]); repeat (first | with_reducible refine W.seq ?_ | with_reducible refine W.block ?_ | (refine W.region (by rfl) ?_; (repeat (first | (refine OpsW.step rfl ?_; simp [opV, a0, LL.len h0 (P := Tryz.prog) Tryz.underlying25]; done) | (refine OpsW.step rfl ?_; simp [opV, a0, LL.len h0 (P := Tryz.prog) Tryz.underlying25]) | (refine OpsW.step ?_ ?_; (focus (simp [wantedA, a0, LL.len h0 (P := Tryz.prog) Tryz.underlying25]; done)); simp [opV, a0, LL.len h0 (P := Tryz.prog) Tryz.underlying25]) | (refine OpsW.un ?_ ?_; (focus (simp [wantedA, a0, LL.len h0 (P := Tryz.prog) Tryz.underlying25]; done))))); (refine OpsW.nil ?_; try simp only [andThen, endBlock]))))
  refine W.loop ?_
  have hmn : ls.length = n := by omega
  refine LW.induct (PSInv A A.next v ls n) ?_ _ _ B ⟨0, rfl, Nat.zero_le _, by simp [a0], by simp [hmn], by simp, by simp, hx0, by simpa using hz, by simp⟩
  clear hz hx0 h0 hmk
  rintro m e A1 ⟨i, rfl, hi, e17, e18, e19, e6, hx, ha, hs⟩
  ((try simp only [andThen, endBlock, if_true]); repeat (first | with_reducible refine W.seq ?_ | with_reducible refine W.block ?_ | (refine W.region (by rfl) ?_; (repeat (first | (refine OpsW.step rfl ?_; simp [opV, e18, e19]; done) | (refine OpsW.step rfl ?_; simp [opV, e18, e19]) | (refine OpsW.step ?_ ?_; (focus (simp [wantedA, e18, e19]; done)); simp [opV, e18, e19]) | (refine OpsW.un ?_ ?_; (focus (simp [wantedA, e18, e19]; done))))); (refine OpsW.nil ?_; try simp only [andThen, endBlock]))))
  by_cases hlt : i < n
  · (refine W.cond true ?_ ?_; (focus (simp [hlt]; done)); simp only [if_true])
    (refine W.skip ?_; try simp only [andThen, endBlock])
    have hll : i < ls.length := by omega
    have h1 := h.ext hx
    refine W.seq ?_
    refine W.block ?_
    refine W.seq ?_
    (refine W.region (by rfl) ?_; (repeat (first | (refine OpsW.step rfl ?_; simp [opV, e17, e19, LL.idx h1 Tryz.underlying25 Tryz.sz36 hll, LL.load h1 Tryz.sh36 hll]; done) | (refine OpsW.step rfl ?_; simp [opV, e17, e19, LL.idx h1 Tryz.underlying25 Tryz.sz36 hll, LL.load h1 Tryz.sh36 hll]) | (refine OpsW.step ?_ ?_; (focus (simp [wantedA, e17, e19, LL.idx h1 Tryz.underlying25 Tryz.sz36 hll, LL.load h1 Tryz.sh36 hll]; done)); simp [opV, e17, e19, LL.idx h1 Tryz.underlying25 Tryz.sz36 hll, LL.load h1 Tryz.sh36 hll]) | (refine OpsW.un ?_ ?_; (focus (simp [wantedA, e17, e19, LL.idx h1 Tryz.underlying25 Tryz.sz36 hll, LL.load h1 Tryz.sh36 hll]; done))))); (refine OpsW.nil ?_; try simp only [andThen, endBlock]))
    refine W.seq ?_
    (refine W.region (by rfl) ?_; (repeat (first | (refine OpsW.step rfl ?_; simp [opV]; done) | (refine OpsW.step rfl ?_; simp [opV]) | (refine OpsW.step ?_ ?_; (focus (simp [wantedA]; done)); simp [opV]) | (refine OpsW.un ?_ ?_; (focus (simp [wantedA]; done))))))
    (refine FnW.mono (of_spec A1 (vx vs i) (lx ls i) (h1.el i hll)) ?_; rintro u A2 ⟨g1, g2⟩)
    have ha2 := ha.ext g2
    have hfin : ∀ N, storeA Tryz.prog (A2.push (.cells (words 0))) 75 (.ptr A2.next 0) (.agg (words N)) = some ((A2.push (.cells (words 0))).put A2.next (.cells (words N))) := fun N => (WordB.new A2 0).store Tryz.sz75
    rcases g1 with ⟨hns, N, rfl⟩ | ⟨hS, rfl⟩
    · (repeat (first | (refine OpsW.step rfl ?_; simp [opV, hfin]; done) | (refine OpsW.step rfl ?_; simp [opV, hfin]) | (refine OpsW.step ?_ ?_; (focus (simp [wantedA, hfin]; done)); simp [opV, hfin]) | (refine OpsW.un ?_ ?_; (focus (simp [wantedA, hfin]; done)))))
      (refine OpsW.nil ?_; try simp only [andThen, endBlock])
      ((try simp only [andThen, endBlock, if_true]); repeat (first | with_reducible refine W.seq ?_ | with_reducible refine W.block ?_ | (refine W.region (by rfl) ?_; (repeat (first | (refine OpsW.step rfl ?_; simp [opV]; done) | (refine OpsW.step rfl ?_; simp [opV]) | (refine OpsW.step ?_ ?_; (focus (simp [wantedA]; done)); simp [opV]) | (refine OpsW.un ?_ ?_; (focus (simp [wantedA]; done))))); (refine OpsW.nil ?_; try simp only [andThen, endBlock]))))
      (refine W.cond true ?_ ?_; (focus (simp; done)); simp only [if_true])
      ((try simp only [andThen, endBlock, if_true]); repeat (first | with_reducible refine W.seq ?_ | with_reducible refine W.block ?_ | (refine W.region (by rfl) ?_; (repeat (first | (refine OpsW.step rfl ?_; simp [opV]; done) | (refine OpsW.step rfl ?_; simp [opV]) | (refine OpsW.step ?_ ?_; (focus (simp [wantedA]; done)); simp [opV]) | (refine OpsW.un ?_ ?_; (focus (simp [wantedA]; done))))); (refine OpsW.nil ?_; try simp only [andThen, endBlock]))))
      (refine W.ret ?_; try simp only [andThen, endBlock])
      refine ⟨.inr rfl, [.nilslice, .bool false], by simp [Tryz.f27, resultsA, resultA], ?_⟩
      exact ⟨.inl ⟨fun hS => hns (hS.2 i hll), _, rfl⟩, (hx.trans g2).trans (Ext.new _ _ _)⟩
    · (repeat (first | (refine OpsW.step rfl ?_; simp [opV, hfin]; done) | (refine OpsW.step rfl ?_; simp [opV, hfin]) | (refine OpsW.step ?_ ?_; (focus (simp [wantedA, hfin]; done)); simp [opV, hfin]) | (refine OpsW.un ?_ ?_; (focus (simp [wantedA, hfin]; done)))))
      (refine OpsW.nil ?_; try simp only [andThen, endBlock])
      ((try simp only [andThen, endBlock, if_true]); repeat (first | with_reducible refine W.seq ?_ | with_reducible refine W.block ?_ | (refine W.region (by rfl) ?_; (repeat (first | (refine OpsW.step rfl ?_; simp [opV]; done) | (refine OpsW.step rfl ?_; simp [opV]) | (refine OpsW.step ?_ ?_; (focus (simp [wantedA]; done)); simp [opV]) | (refine OpsW.un ?_ ?_; (focus (simp [wantedA]; done))))); (refine OpsW.nil ?_; try simp only [andThen, endBlock]))))
      (refine W.cond false ?_ ?_; (focus (simp; done)); simp only [Bool.false_eq_true, if_false])
      (refine W.skip ?_; try simp only [andThen, endBlock])
      have hx3 := Ext.new A2 (.cells (words 0)) (.cells (words (bitsOf (lx ls i))))
      have hw : WordB ((A2.push (.cells (words 0))).put A2.next (.cells (words (bitsOf (lx ls i))))) A2.next (bitsOf (lx ls i)) := WordB.put _ _ (Nat.lt_succ_self _)
      generalize (A2.push (.cells (words 0))).put A2.next (.cells (words (bitsOf (lx ls i)))) = A3 at *
      have ha3 := ha2.ext hx3
      have hst := ha3.store (P := Tryz.prog) (M := bitsOf (lx ls i)) Tryz.sz75 hlt
      ((try simp only [andThen, endBlock, if_true]); repeat (first | with_reducible refine W.seq ?_ | with_reducible refine W.block ?_ | (refine W.region (by rfl) ?_; (repeat (first | (refine OpsW.step rfl ?_; simp [opV, e6, hw.whole Tryz.sh75, ArrB.idx Tryz.underlying69 Tryz.sz75 hlt, hst, e19]; done) | (refine OpsW.step rfl ?_; simp [opV, e6, hw.whole Tryz.sh75, ArrB.idx Tryz.underlying69 Tryz.sz75 hlt, hst, e19]) | (refine OpsW.step ?_ ?_; (focus (simp [wantedA, e6, hw.whole Tryz.sh75, ArrB.idx Tryz.underlying69 Tryz.sz75 hlt, hst, e19]; done)); simp [opV, e6, hw.whole Tryz.sh75, ArrB.idx Tryz.underlying69 Tryz.sz75 hlt, hst, e19]) | (refine OpsW.un ?_ ?_; (focus (simp [wantedA, e6, hw.whole Tryz.sh75, ArrB.idx Tryz.underlying69 Tryz.sz75 hlt, hst, e19]; done))))); (refine OpsW.nil ?_; try simp only [andThen, endBlock]))))
      refine ⟨n - (i + 1), ?_, i + 1, rfl, by omega, by simp [e17], by simp [e18], by simp [wrap_succ hlt (by rw [Most_eq]; omega)], by simp [e6], ((hx.trans g2).trans hx3).put (Nat.le_refl _) _, ?_, fun j hj => ?_⟩
      · omega
      · have he : updF (fun j => if j < i then GK ls j else 0) i (bitsOf (lx ls i)) = fun j => if j < i + 1 then GK ls j else 0 := by
          funext j
          by_cases hj : j = i
          · subst hj; rw [updF_same, if_pos (by omega)]; rfl
          · rw [updF_other hj]
            by_cases h2 : j < i
            · rw [if_pos h2, if_pos (by omega)]
            · rw [if_neg h2, if_neg (by omega)]
        rw [he]
        exact ArrB.put _ _ _ ha3.lt
      · by_cases hji : j = i
        · subst hji; exact hS
        · exact hs j (by omega)
  · (refine W.cond false ?_ ?_; (focus (simp [hlt]; done)); simp only [Bool.false_eq_true, if_false])
    (refine W.exit ?_; try simp only [andThen, endBlock, if_true])
    ((try simp only [andThen, endBlock, if_true]); repeat (first | with_reducible refine W.seq ?_ | with_reducible refine W.block ?_ | (refine W.region (by rfl) ?_; (repeat (first | (refine OpsW.step rfl ?_; simp [opV, e6]; done) | (refine OpsW.step rfl ?_; simp [opV, e6]) | (refine OpsW.step ?_ ?_; (focus (simp [wantedA, e6]; done)); simp [opV, e6]) | (refine OpsW.un ?_ ?_; (focus (simp [wantedA, e6]; done))))); (refine OpsW.nil ?_; try simp only [andThen, endBlock]))))
    (refine W.ret ?_; try simp only [andThen, endBlock])
    refine ⟨.inr rfl, [.slice A.next 0 n n true 16, .bool true], by simp [Tryz.f27, resultsA, resultA], ?_⟩
    refine ⟨.inr ⟨⟨hmn, fun j hj => hs j (by omega)⟩, _, rfl, ?_, Nat.le_refl _⟩, hx⟩
    have hi' : i = n := by omega
    subst hi'
    refine ⟨?_, ha.lt⟩
    rw [ha.get]
    have : bcells i (fun j => if j < i then GK ls j else 0) = bcells i (GK ls) := by
      rw [bcells, bcells]
      congr 1
      refine List.map_congr_left fun a ha => ?_
      rw [if_pos (by simpa using ha)]
    rw [this]

/-! the two functions: what follows, what leads to -/
theorem follow_spec (A : AH) (β : Nat) (p : AV) (nx : List (List Int)) (cs : List AV) (i : Nat) (hb : Box A β p) (hf : Fl A p nx cs) (hi : i < nx.length) : FnW Tryz.prog 28 [IV i, .ptr β 0] A fun u A' => u = vx cs (i * 3 + 2) ∧ A = A' := by
  refine FnW.body Tryz.func28 (by decide) rfl Tryz.ntmps28 ?_
  generalize hE : bindArgs _ 0 _ = E
  have a0 := (congrArg (fun e => En.get e 0) hE).symm
  simp [bindArgs, kept, En.get_bind] at a0
  have a1 := (congrArg (fun e => En.get e 1) hE).symm
  simp [bindArgs, kept, En.get_bind] at a1
  clear hE
  refine W.seq ?_
  (refine W.region (by rfl) ?_; (repeat (first | (refine OpsW.step rfl ?_; simp [opV]; done) | (refine OpsW.step rfl ?_; simp [opV]) | (refine OpsW.step ?_ ?_; (focus (simp [wantedA]; done)); simp [opV]) | (refine OpsW.un ?_ ?_; (focus (simp [wantedA]; done))))); (refine OpsW.nil ?_; try simp only [andThen, endBlock]))
  ((try simp only [andThen, endBlock, if_true]); repeat (first | with_reducible refine W.seq ?_ | with_reducible refine W.block ?_ | (refine W.region (by rfl) ?_; (repeat (first | (refine OpsW.step rfl ?_; simp [opV, a0, a1, box_load hb.get Tryz.sh22, Fl.len hf (P := Tryz.prog) Tryz.underlying22, Fl.idx hf Tryz.underlying22 Tryz.sz39 hi, Fl.load hf Tryz.sh36 hi]; done) | (refine OpsW.step rfl ?_; simp [opV, a0, a1, box_load hb.get Tryz.sh22, Fl.len hf (P := Tryz.prog) Tryz.underlying22, Fl.idx hf Tryz.underlying22 Tryz.sz39 hi, Fl.load hf Tryz.sh36 hi]) | (refine OpsW.step ?_ ?_; (focus (simp [wantedA, a0, a1, box_load hb.get Tryz.sh22, Fl.len hf (P := Tryz.prog) Tryz.underlying22, Fl.idx hf Tryz.underlying22 Tryz.sz39 hi, Fl.load hf Tryz.sh36 hi]; done)); simp [opV, a0, a1, box_load hb.get Tryz.sh22, Fl.len hf (P := Tryz.prog) Tryz.underlying22, Fl.idx hf Tryz.underlying22 Tryz.sz39 hi, Fl.load hf Tryz.sh36 hi]) | (refine OpsW.un ?_ ?_; (focus (simp [wantedA, a0, a1, box_load hb.get Tryz.sh22, Fl.len hf (P := Tryz.prog) Tryz.underlying22, Fl.idx hf Tryz.underlying22 Tryz.sz39 hi, Fl.load hf Tryz.sh36 hi]; done))))); (refine OpsW.nil ?_; try simp only [andThen, endBlock]))))
  (refine W.ret ?_; try simp only [andThen, endBlock])
  refine ⟨.inr rfl, [vx cs (i * 3 + 2)], by simp [Tryz.f28, resultsA, resultA], ?_⟩
  exact ⟨rfl, rfl⟩
theorem before_spec (A : AH) (β : Nat) (v : AV) (ls : List (List Int)) (vs : List AV) (i : Nat) (hb : Box A β v) (hl : LL A v ls vs) (hi : i < ls.length) : FnW Tryz.prog 29 [IV i, .ptr β 0] A fun u A' => u = vx vs i ∧ A = A' := by
  refine FnW.body Tryz.func29 (by decide) rfl Tryz.ntmps29 ?_
  generalize hE : bindArgs _ 0 _ = E
  have a0 := (congrArg (fun e => En.get e 0) hE).symm
  simp [bindArgs, kept, En.get_bind] at a0
  have a1 := (congrArg (fun e => En.get e 1) hE).symm
  simp [bindArgs, kept, En.get_bind] at a1
  clear hE
  refine W.seq ?_
  (refine W.region (by rfl) ?_; (repeat (first | (refine OpsW.step rfl ?_; simp [opV]; done) | (refine OpsW.step rfl ?_; simp [opV]) | (refine OpsW.step ?_ ?_; (focus (simp [wantedA]; done)); simp [opV]) | (refine OpsW.un ?_ ?_; (focus (simp [wantedA]; done))))); (refine OpsW.nil ?_; try simp only [andThen, endBlock]))
  ((try simp only [andThen, endBlock, if_true]); repeat (first | with_reducible refine W.seq ?_ | with_reducible refine W.block ?_ | (refine W.region (by rfl) ?_; (repeat (first | (refine OpsW.step rfl ?_; simp [opV, a0, a1, box_load hb.get Tryz.sh25, LL.idx hl Tryz.underlying25 Tryz.sz36 hi, LL.load hl Tryz.sh36 hi]; done) | (refine OpsW.step rfl ?_; simp [opV, a0, a1, box_load hb.get Tryz.sh25, LL.idx hl Tryz.underlying25 Tryz.sz36 hi, LL.load hl Tryz.sh36 hi]) | (refine OpsW.step ?_ ?_; (focus (simp [wantedA, a0, a1, box_load hb.get Tryz.sh25, LL.idx hl Tryz.underlying25 Tryz.sz36 hi, LL.load hl Tryz.sh36 hi]; done)); simp [opV, a0, a1, box_load hb.get Tryz.sh25, LL.idx hl Tryz.underlying25 Tryz.sz36 hi, LL.load hl Tryz.sh36 hi]) | (refine OpsW.un ?_ ?_; (focus (simp [wantedA, a0, a1, box_load hb.get Tryz.sh25, LL.idx hl Tryz.underlying25 Tryz.sz36 hi, LL.load hl Tryz.sh36 hi]; done))))); (refine OpsW.nil ?_; try simp only [andThen, endBlock]))))
  (refine W.ret ?_; try simp only [andThen, endBlock])
  refine ⟨.inr rfl, [vx vs i], by simp [Tryz.f29, resultsA, resultA], ?_⟩
  exact ⟨rfl, rfl⟩
end Go.Proofs

/-! Before of the program. -/
namespace Go.Proofs
open Go Go.Ab
theorem arr_store {P : Program} {A : AH} {β a : Nat} {cs : List AV} {T : Nat} {u : AV} (h : A.get β = some (.cells cs)) (hz : sizeT P T = some 1) (hc : cellsOf u = some [u]) (ha : a < cs.length) : storeA P A T (.ptr β a) u = some (A.put β (.cells (cs.set a u))) := by
  rw [storeA_of h hc hz rfl (by omega), List.set_eq_take_append_cons_drop, if_pos ha]
  simp
def updL (L : Nat → List Int) (k : Nat) (l : List Int) : Nat → List Int := fun i => if i = k then l else L i
theorem updL_same (L : Nat → List Int) (k : Nat) (l : List Int) : updL L k l k = l := if_pos rfl
theorem updL_other {L : Nat → List Int} {k i : Nat} {l : List Int} (h : i ≠ k) : updL L k l i = L i := if_neg h
/-- the array that Before makes -/
structure BefA (A0 A : AH) (β n : Nat) (cs : List AV) (L : Nat → List Int) : Prop where
  get : A.get β = some (.cells cs)
  len : cs.length = n
  lt : β < A.next
  ge : A0.next ≤ β
  pos : 0 < β
  ext : Ext A0 A
  el : ∀ k, k < n → OwnI A0 A (vx cs k) (L k)
  sep : ∀ k, k < n → vx cs k = .nilslice ∨ β < pb (vx cs k)
  dis : ∀ j k, j < n → k < n → j ≠ k → pb (vx cs j) = pb (vx cs k) → vx cs j = .nilslice
theorem ownI_place {A0 A : AH} {v : AV} {l : List Int} (h : OwnI A0 A v l) : pb v < A.next ∨ v = .nilslice := by
  rcases h with ⟨rfl, _⟩ | ⟨γ, q, ex, rfl, _, _, _, h4⟩
  · exact .inr rfl
  · exact .inl h4
theorem ownI_cells {A0 A : AH} {v : AV} {l : List Int} (h : OwnI A0 A v l) : cellsOf v = some [v] := by
  rcases h with ⟨rfl, _⟩ | ⟨γ, q, ex, rfl, _⟩ <;> rfl
theorem ownI_keep {A0 A A' : AH} {v : AV} {l : List Int} (h : OwnI A0 A v l) (hg : v = .nilslice ∨ A'.get (pb v) = A.get (pb v)) (hn : A.next ≤ A'.next) : OwnI A0 A' v l := by
  rcases h with h | ⟨γ, q, ex, rfl, h1, h2, h3, h4⟩
  · exact .inl h
  · rcases hg with hg | hg
    · cases hg
    · exact .inr ⟨γ, q, ex, rfl, by rw [pb_slice] at hg; rw [hg]; exact h1, h2, h3, Nat.lt_of_lt_of_le h4 hn⟩
theorem BefA.append {A0 A : AH} {β n k : Nat} {cs : List AV} {L : Nat → List Int} (h : BefA A0 A β n cs L) (hk : k < n) (x : Int) (hb : (L k).length < 1000000) :
    ∃ v' A', appendA (A.push (.cells [.int .i64 x])) 1 (vx cs k) (.slice A.next 0 1 1 true 1) = some (v', A') ∧ A'.get β = some (.cells cs) ∧ cellsOf v' = some [v'] ∧ BefA A0 (A'.put β (.cells (cs.set k v'))) β n (cs.set k v') (updL L k (L k ++ [x])) := by
  obtain ⟨v', A', g1, g2, g3, g4, g5, g6⟩ := append_int' x (h.el k hk) h.ext hb
  have hv0 : pb (vx cs k) ≠ β := by
    rcases h.sep k hk with e | e
    · rw [e]; exact Nat.ne_of_lt h.pos
    · omega
  have hget : A'.get β = some (.cells cs) := by rw [g4 β h.lt (fun e => hv0 e.symm)]; exact h.get
  have hlt := h.lt
  have hl := h.len
  have hv : ∀ i, vx (cs.set k v') i = if i = k then v' else vx cs i := fun i => vx_set (by omega)
  have hother : ∀ j, j < n → j ≠ k → pb (vx cs j) < A.next ∨ vx cs j = .nilslice := fun j hj _ => ownI_place (h.el j hj)
  refine ⟨v', A', g1, hget, ownI_cells g2, ⟨by rw [AH.get_put, if_pos rfl], by simpa using hl, by show β < A'.next; omega, h.ge, h.pos, g3.put h.ge _, fun j hj => ?_, fun j hj => ?_, fun i j hi hj hij he => ?_⟩⟩
  · rw [hv]
    by_cases hjk : j = k
    · subst hjk
      rw [if_pos rfl, updL_same]
      refine ownI_keep g2 (.inr ?_) (Nat.le_refl _)
      rw [AH.get_put, if_neg (by omega)]
    · rw [if_neg hjk, updL_other hjk]
      refine ownI_keep (h.el j hj) ?_ g5
      rcases hother j hj hjk with hp | hp
      · by_cases hpe : pb (vx cs j) = pb (vx cs k)
        · exact .inl (h.dis j k hj hk hjk hpe)
        · right
          have hsb : vx cs j = .nilslice ∨ β < pb (vx cs j) := h.sep j hj
          by_cases hjb : pb (vx cs j) = β
          · rcases hsb with hsb | hsb
            · rw [hsb] at hjb; exact absurd hjb (Nat.ne_of_lt h.pos)
            · omega
          · rw [AH.get_put, if_neg hjb, g4 _ hp hpe]
      · exact .inl hp
  · rw [hv]
    by_cases hjk : j = k
    · rw [if_pos hjk]; exact .inr (by omega)
    · rw [if_neg hjk]; exact h.sep j hj
  · rw [hv, hv] at he
    rw [hv]
    by_cases hik : i = k
    · rw [if_pos hik, if_neg (by omega)] at he
      rcases hother j hj (by omega) with hp | hp
      · omega
      · rw [hp] at he
        have : pb .nilslice = 0 := rfl
        omega
    · rw [if_neg hik] at he ⊢
      by_cases hjk : j = k
      · rw [if_pos hjk] at he
        rcases hother i hi hik with hp | hp
        · omega
        · exact hp
      · rw [if_neg hjk] at he
        exact h.dis i j hi hj hij he

variable [LoopTab]
/-- the points that lead to each point -/
def Leads (nx ls : List (List Int)) : Prop := ls.length = nx.length ∧ ∀ k, k < nx.length → ∀ x, x ∈ lx ls k ↔ ∃ a : Nat, a < nx.length ∧ x = (a : Int) ∧ (k : Int) ∈ lx nx a
def BInv (A0 : AH) (β1 β : Nat) (p : AV) (nx : List (List Int)) (m : Nat) (e : En) (A : AH) : Prop := ∃ i : Nat, ∃ cs L, m = nx.length - i ∧ i ≤ nx.length ∧ e.get 3 = .slice β 0 nx.length nx.length true 1 ∧ e.get 17 = p ∧ e.get 18 = IV nx.length ∧ e.get 19 = IV i ∧ BefA A0 A β nx.length cs L ∧ (∀ k, k < nx.length → (L k).length ≤ 1000 * i) ∧ ∀ k, k < nx.length → ∀ x, x ∈ L k ↔ ∃ a : Nat, a < i ∧ x = (a : Int) ∧ (k : Int) ∈ lx nx a
def BInv2 (A0 : AH) (β1 β : Nat) (p : AV) (nx : List (List Int)) (pcs : List AV) (i : Nat) (m : Nat) (e : En) (A : AH) : Prop := ∃ j : Nat, ∃ cs L, m = (lx nx i).length - j ∧ j ≤ (lx nx i).length ∧ e.get 3 = .slice β 0 nx.length nx.length true 1 ∧ e.get 17 = p ∧ e.get 18 = IV nx.length ∧ e.get 19 = IV i ∧ e.get 4 = IV i ∧ e.get 25 = vx pcs (i * 3 + 2) ∧ e.get 26 = IV (lx nx i).length ∧ e.get 27 = IV j ∧ BefA A0 A β nx.length cs L ∧ (∀ k, k < nx.length → (L k).length ≤ 1000 * i + j) ∧ ∀ k, k < nx.length → ∀ x, x ∈ L k ↔ (∃ a : Nat, a < i ∧ x = (a : Int) ∧ (k : Int) ∈ lx nx a) ∨ (x = (i : Int) ∧ (k : Int) ∈ (lx nx i).take j)
def BOut (A0 : AH) (β1 β : Nat) (p : AV) (nx : List (List Int)) (i : Nat) (x : Ex) (e : En) (A : AH) : Prop := x = .exit 2 ∧ ∃ cs L, e.get 3 = .slice β 0 nx.length nx.length true 1 ∧ e.get 17 = p ∧ e.get 18 = IV nx.length ∧ e.get 19 = IV i ∧ BefA A0 A β nx.length cs L ∧ (∀ k, k < nx.length → (L k).length ≤ 1000 * (i + 1)) ∧ ∀ k, k < nx.length → ∀ x, x ∈ L k ↔ ∃ a : Nat, a < i + 1 ∧ x = (a : Int) ∧ (k : Int) ∈ lx nx a
def BefAns (nx : List (List Int)) (u : AV) (A : AH) : Prop := (¬ ValidF nx ∧ u = .nilslice) ∨ (ValidF nx ∧ ∃ ls vs, LL A u ls vs ∧ Leads nx ls)
theorem before26_spec (A : AH) (p : AV) (nx : List (List Int)) (pcs : List AV) (h : Fl A p nx pcs) (hs1 : nx.length ≤ 900) (hs2 : ∀ i, i < nx.length → (lx nx i).length ≤ 1000) : FnW Tryz.prog 26 [.agg [p]] A fun u A' => BefAns nx u A' ∧ Ext A A' := by
  refine FnW.body Tryz.func26 (by decide) rfl Tryz.ntmps26 ?_
  generalize hE : bindArgs _ 0 _ = E
  have a0 := (congrArg (fun e => En.get e 0) hE).symm
  simp [bindArgs, kept, En.get_bind] at a0
  clear hE
  refine W.seq ?_
  (refine W.region (by rfl) ?_; (repeat (first | (refine OpsW.step rfl ?_; simp [opV, a0]; done) | (refine OpsW.step rfl ?_; simp [opV, a0]) | (refine OpsW.step ?_ ?_; (focus (simp [wantedA, a0]; done)); simp [opV, a0]) | (refine OpsW.un ?_ ?_; (focus (simp [wantedA, a0]; done))))); (refine OpsW.nil ?_; try simp only [andThen, endBlock]))
  have hb := Box.new A p
  have hx := Ext.box A (.cells [p])
  have hf := h.ext hx
  generalize A.push (.cells [p]) = B at *
  ((try simp only [andThen, endBlock, if_true]); repeat (first | with_reducible refine W.seq ?_ | with_reducible refine W.block ?_ | (refine W.region (by rfl) ?_; (repeat (first | (refine OpsW.step rfl ?_; simp [opV]; done) | (refine OpsW.step rfl ?_; simp [opV]) | (refine OpsW.step ?_ ?_; (focus (simp [wantedA]; done)); simp [opV]) | (refine OpsW.un ?_ ?_; (focus (simp [wantedA]; done))))); (refine OpsW.nil ?_; try simp only [andThen, endBlock]))))
  (refine W.region (by rfl) ?_; (repeat (first | (refine OpsW.step rfl ?_; simp [opV, box_whole hb.get Tryz.sh24]; done) | (refine OpsW.step rfl ?_; simp [opV, box_whole hb.get Tryz.sh24]) | (refine OpsW.step ?_ ?_; (focus (simp [wantedA, box_whole hb.get Tryz.sh24]; done)); simp [opV, box_whole hb.get Tryz.sh24]) | (refine OpsW.un ?_ ?_; (focus (simp [wantedA, box_whole hb.get Tryz.sh24]; done))))))
  (refine FnW.mono (pvalid_spec B p nx pcs hf) ?_; rintro _ A1 ⟨⟨t1, rfl, ht1⟩, hx1⟩)
  cases t1 with
  | false =>
    (repeat (first | (refine OpsW.step rfl ?_; simp [opV]; done) | (refine OpsW.step rfl ?_; simp [opV]) | (refine OpsW.step ?_ ?_; (focus (simp [wantedA]; done)); simp [opV]) | (refine OpsW.un ?_ ?_; (focus (simp [wantedA]; done)))))
    (refine OpsW.nil ?_; try simp only [andThen, endBlock])
    (refine W.cond true ?_ ?_; (focus (simp; done)); simp only [if_true])
    ((try simp only [andThen, endBlock, if_true]); repeat (first | with_reducible refine W.seq ?_ | with_reducible refine W.block ?_ | (refine W.region (by rfl) ?_; (repeat (first | (refine OpsW.step rfl ?_; simp [opV]; done) | (refine OpsW.step rfl ?_; simp [opV]) | (refine OpsW.step ?_ ?_; (focus (simp [wantedA]; done)); simp [opV]) | (refine OpsW.un ?_ ?_; (focus (simp [wantedA]; done))))); (refine OpsW.nil ?_; try simp only [andThen, endBlock]))))
    (refine W.ret ?_; try simp only [andThen, endBlock])
    refine ⟨.inr rfl, [.nilslice], by simp [Tryz.f26, resultsA, resultA], ?_⟩
    exact ⟨.inl ⟨fun hS => Bool.noConfusion (ht1.2 hS), rfl⟩, hx.trans hx1⟩
  | true =>
  have hval := ht1.1 rfl
  have hb1 := hb.ext hx1
  have hf1 := hf.ext hx1
  have hx01 := hx.trans hx1
  clear hb hf hx hx1 ht1
  (repeat (first | (refine OpsW.step rfl ?_; simp [opV]; done) | (refine OpsW.step rfl ?_; simp [opV]) | (refine OpsW.step ?_ ?_; (focus (simp [wantedA]; done)); simp [opV]) | (refine OpsW.un ?_ ?_; (focus (simp [wantedA]; done)))))
  (refine OpsW.nil ?_; try simp only [andThen, endBlock])
  (refine W.cond false ?_ ?_; (focus (simp; done)); simp only [Bool.false_eq_true, if_false])
  (refine W.skip ?_; try simp only [andThen, endBlock])
  have hmk : mkV Tryz.prog 25 (.int .i64 (nx.length : Int)) (.int .i64 (nx.length : Int)) = some (.slc nx.length nx.length 1, .cells (List.replicate nx.length [.nilslice]).flatten) := mkV_of Tryz.underlying25 Tryz.zc36 Tryz.sz36 rfl Tryz.ob36 (by omega)
  refine W.seq ?_
  (refine W.region (by rfl) ?_; (repeat (first | (refine OpsW.step rfl ?_; simp [opV, box_load hb1.get Tryz.sh22, Fl.len hf1 (P := Tryz.prog) Tryz.underlying22, allocL_mk, hmk]; done) | (refine OpsW.step rfl ?_; simp [opV, box_load hb1.get Tryz.sh22, Fl.len hf1 (P := Tryz.prog) Tryz.underlying22, allocL_mk, hmk]) | (refine OpsW.step ?_ ?_; (focus (simp [wantedA, box_load hb1.get Tryz.sh22, Fl.len hf1 (P := Tryz.prog) Tryz.underlying22, allocL_mk, hmk]; done)); simp [opV, box_load hb1.get Tryz.sh22, Fl.len hf1 (P := Tryz.prog) Tryz.underlying22, allocL_mk, hmk]) | (refine OpsW.un ?_ ?_; (focus (simp [wantedA, box_load hb1.get Tryz.sh22, Fl.len hf1 (P := Tryz.prog) Tryz.underlying22, allocL_mk, hmk]; done))))); (refine OpsW.nil ?_; try simp only [andThen, endBlock]))
  have hx2 := Ext.box A1 (.cells (List.replicate nx.length AV.nilslice))
  have hv : ∀ a, a < nx.length → vx (List.replicate nx.length AV.nilslice) a = .nilslice := fun a ha => by simp [vx, ha]
  have hpos : 0 < A1.next := Nat.lt_of_le_of_lt (Nat.zero_le _) hb1.lt
  have hbef : BefA A1 (A1.push (.cells (List.replicate nx.length AV.nilslice))) A1.next nx.length (List.replicate nx.length AV.nilslice) (fun _ => []) := ⟨get_box _, by simp, Nat.lt_succ_self _, Nat.le_refl _, hpos, hx2, fun k hk => by rw [hv k hk]; exact .inl ⟨rfl, rfl⟩, fun k hk => .inl (hv k hk), fun j k hj _ _ _ => hv j hj⟩
  have hb2 := hb1.ext hx2
  have hf2 := hf1.ext hx2
  generalize A1.push (.cells (List.replicate nx.length AV.nilslice)) = B2 at *
  ((try simp only [andThen, endBlock, if_true]); repeat (first | with_reducible refine W.seq ?_ | with_reducible refine W.block ?_ | (refine W.region (by rfl) ?_; (repeat (first | (refine OpsW.step rfl ?_; simp [opV, box_load hb2.get Tryz.sh22, Fl.len hf2 (P := Tryz.prog) Tryz.underlying22]; done) | (refine OpsW.step rfl ?_; simp [opV, box_load hb2.get Tryz.sh22, Fl.len hf2 (P := Tryz.prog) Tryz.underlying22]) | (refine OpsW.step ?_ ?_; (focus (simp [wantedA, box_load hb2.get Tryz.sh22, Fl.len hf2 (P := Tryz.prog) Tryz.underlying22]; done)); simp [opV, box_load hb2.get Tryz.sh22, Fl.len hf2 (P := Tryz.prog) Tryz.underlying22]) | (refine OpsW.un ?_ ?_; (focus (simp [wantedA, box_load hb2.get Tryz.sh22, Fl.len hf2 (P := Tryz.prog) Tryz.underlying22]; done))))); (refine OpsW.nil ?_; try simp only [andThen, endBlock]))))
  refine W.loop ?_
  refine LW.induct (BInv A1 A.next A1.next p nx) ?_ _ _ B2 ⟨0, _, _, rfl, Nat.zero_le _, by simp, by simp, by simp, by simp, hbef, by simp, by simp⟩
  clear hbef hx2 hb2 hf2 hmk hv
  rintro m e A2 ⟨i, cs, L, rfl, hi, e3, e17, e18, e19, hbef, hbnd, hcont⟩
  ((try simp only [andThen, endBlock, if_true]); repeat (first | with_reducible refine W.seq ?_ | with_reducible refine W.block ?_ | (refine W.region (by rfl) ?_; (repeat (first | (refine OpsW.step rfl ?_; simp [opV, e18, e19]; done) | (refine OpsW.step rfl ?_; simp [opV, e18, e19]) | (refine OpsW.step ?_ ?_; (focus (simp [wantedA, e18, e19]; done)); simp [opV, e18, e19]) | (refine OpsW.un ?_ ?_; (focus (simp [wantedA, e18, e19]; done))))); (refine OpsW.nil ?_; try simp only [andThen, endBlock]))))
  by_cases hlt : i < nx.length
  rotate_left
  · (refine W.cond false ?_ ?_; (focus (simp [hlt]; done)); simp only [Bool.false_eq_true, if_false])
    (refine W.exit ?_; try simp only [andThen, endBlock, if_true])
    ((try simp only [andThen, endBlock, if_true]); repeat (first | with_reducible refine W.seq ?_ | with_reducible refine W.block ?_ | (refine W.region (by rfl) ?_; (repeat (first | (refine OpsW.step rfl ?_; simp [opV, e3]; done) | (refine OpsW.step rfl ?_; simp [opV, e3]) | (refine OpsW.step ?_ ?_; (focus (simp [wantedA, e3]; done)); simp [opV, e3]) | (refine OpsW.un ?_ ?_; (focus (simp [wantedA, e3]; done))))); (refine OpsW.nil ?_; try simp only [andThen, endBlock]))))
    (refine W.ret ?_; try simp only [andThen, endBlock])
    refine ⟨.inr rfl, [.slice A1.next 0 nx.length nx.length true 1], by simp [Tryz.f26, resultsA, resultA], ?_⟩
    have hi' : i = nx.length := by omega
    subst hi'
    have hll : ∀ k, k < nx.length → lx ((List.range nx.length).map L) k = L k := fun k hk => by simp [lx, hk]
    have hlen : ((List.range nx.length).map L).length = nx.length := by simp
    refine ⟨.inr ⟨hval, (List.range nx.length).map L, cs, ⟨?_, fun k hk => ?_, by rw [hlen]; exact h.le⟩, hlen, fun k hk x => by rw [hll k hk]; exact hcont k hk x⟩, hx01.trans hbef.ext⟩
    · rw [hlen]
      exact .inr ⟨A1.next, 0, nx.length, true, cs, rfl, by rw [hbef.get]; rfl, by have := hbef.len; omega, by simp [← hbef.len], hbef.lt, Nat.le_refl _⟩
    · rw [hlen] at hk
      rw [hll k hk]
      exact (hbef.el k hk).sl (by have := hbnd k hk; rw [Most_eq]; omega)
  · (refine W.cond true ?_ ?_; (focus (simp [hlt]; done)); simp only [if_true])
    (refine W.skip ?_; try simp only [andThen, endBlock])
    have hf3 := hf1.ext hbef.ext
    have hst : storeA Tryz.prog (A2.push (.cells [.int .i64 0, .int .i64 0, .nilslice])) 39 (.ptr A2.next 0) (.agg (pt pcs i)) = _ := store_new Tryz.sz39 (by rfl) (by rfl)
    refine W.seq ?_
    refine W.block ?_
    refine W.seq ?_
    (refine W.region (by rfl) ?_; (repeat (first | (refine OpsW.step rfl ?_; simp [opV, e17, e19, Fl.idx hf3 Tryz.underlying22 Tryz.sz39 hlt, Fl.whole hf3 Tryz.sh39 hlt, hst]; done) | (refine OpsW.step rfl ?_; simp [opV, e17, e19, Fl.idx hf3 Tryz.underlying22 Tryz.sz39 hlt, Fl.whole hf3 Tryz.sh39 hlt, hst]) | (refine OpsW.step ?_ ?_; (focus (simp [wantedA, e17, e19, Fl.idx hf3 Tryz.underlying22 Tryz.sz39 hlt, Fl.whole hf3 Tryz.sh39 hlt, hst]; done)); simp [opV, e17, e19, Fl.idx hf3 Tryz.underlying22 Tryz.sz39 hlt, Fl.whole hf3 Tryz.sh39 hlt, hst]) | (refine OpsW.un ?_ ?_; (focus (simp [wantedA, e17, e19, Fl.idx hf3 Tryz.underlying22 Tryz.sz39 hlt, Fl.whole hf3 Tryz.sh39 hlt, hst]; done))))); (refine OpsW.nil ?_; try simp only [andThen, endBlock]))
    have hx3 := Ext.new A2 (.cells [.int .i64 0, .int .i64 0, .nilslice]) (.cells (pt pcs i))
    have hg := get_new A2 (.cells [.int .i64 0, .int .i64 0, .nilslice]) (.cells (pt pcs i))
    have hld : loadA Tryz.prog ((A2.push (.cells [.int .i64 0, .int .i64 0, .nilslice])).put A2.next (.cells (pt pcs i))) 36 (.ptr A2.next 2) = some (vx pcs (i * 3 + 2)) := cell_load hg Tryz.sh36
    have hbef3 : BefA A1 ((A2.push (.cells [.int .i64 0, .int .i64 0, .nilslice])).put A2.next (.cells (pt pcs i))) A1.next nx.length cs L :=
      ⟨by rw [hx3.2 _ hbef.lt]; exact hbef.get, hbef.len, Nat.lt_of_lt_of_le hbef.lt hx3.1, hbef.ge, hbef.pos, hbef.ext.trans hx3, fun k hk => Own.ext (hbef.el k hk) hx3, hbef.sep, hbef.dis⟩
    generalize (A2.push (.cells [.int .i64 0, .int .i64 0, .nilslice])).put A2.next (.cells (pt pcs i)) = A3 at *
    have hn3 := (hf1.ext hbef3.ext).el i hlt
    refine W.seq ?_
    (refine W.region (by rfl) ?_; (repeat (first | (refine OpsW.step rfl ?_; simp [opV, hld, IntSl.len hn3 (P := Tryz.prog) Tryz.underlying36]; done) | (refine OpsW.step rfl ?_; simp [opV, hld, IntSl.len hn3 (P := Tryz.prog) Tryz.underlying36]) | (refine OpsW.step ?_ ?_; (focus (simp [wantedA, hld, IntSl.len hn3 (P := Tryz.prog) Tryz.underlying36]; done)); simp [opV, hld, IntSl.len hn3 (P := Tryz.prog) Tryz.underlying36]) | (refine OpsW.un ?_ ?_; (focus (simp [wantedA, hld, IntSl.len hn3 (P := Tryz.prog) Tryz.underlying36]; done))))); (refine OpsW.nil ?_; try simp only [andThen, endBlock]))
    ((try simp only [andThen, endBlock, if_true]); repeat (first | with_reducible refine W.seq ?_ | with_reducible refine W.block ?_ | (refine W.region (by rfl) ?_; (repeat (first | (refine OpsW.step rfl ?_; simp [opV]; done) | (refine OpsW.step rfl ?_; simp [opV]) | (refine OpsW.step ?_ ?_; (focus (simp [wantedA]; done)); simp [opV]) | (refine OpsW.un ?_ ?_; (focus (simp [wantedA]; done))))); (refine OpsW.nil ?_; try simp only [andThen, endBlock]))))
    refine W.mono (Q := BOut A1 A.next A1.next p nx i) ?_ ?_
    · refine W.loop ?_
      refine LW.induct (BInv2 A1 A.next A1.next p nx pcs i) ?_ _ _ A3 ⟨0, cs, L, rfl, Nat.zero_le _, by simp [e3], by simp [e17], by simp [e18], by simp [e19], by simp, by simp, by simp, by simp, hbef3, by simpa using hbnd, by simpa using hcont⟩
      clear hbef hbef3 hbnd hcont hn3 hx3 hg hld hst hf3 e3 e17 e18 e19
      rintro m e A4 ⟨j, cs, L, rfl, hj, e3, e17, e18, e19, e4, e25, e26, e27, hbef, hbnd, hcont⟩
      ((try simp only [andThen, endBlock, if_true]); repeat (first | with_reducible refine W.seq ?_ | with_reducible refine W.block ?_ | (refine W.region (by rfl) ?_; (repeat (first | (refine OpsW.step rfl ?_; simp [opV, e26, e27]; done) | (refine OpsW.step rfl ?_; simp [opV, e26, e27]) | (refine OpsW.step ?_ ?_; (focus (simp [wantedA, e26, e27]; done)); simp [opV, e26, e27]) | (refine OpsW.un ?_ ?_; (focus (simp [wantedA, e26, e27]; done))))); (refine OpsW.nil ?_; try simp only [andThen, endBlock]))))
      by_cases hjt : j < (lx nx i).length
      rotate_left
      · (refine W.cond false ?_ ?_; (focus (simp [hjt]; done)); simp only [Bool.false_eq_true, if_false])
        (refine W.exit ?_; try simp only [andThen, endBlock, if_true])
        refine ⟨by simp, cs, L, by simp [e3], by simp [e17], by simp [e18], by simp [e19], hbef, fun k hk => ?_, fun k hk x => ?_⟩
        · have := hbnd k hk; have := hs2 i hlt; omega
        · rw [hcont k hk x, List.take_of_length_le (by omega)]
          constructor
          · rintro (⟨a, h1, h2, h3⟩ | ⟨h1, h2⟩)
            · exact ⟨a, by omega, h2, h3⟩
            · exact ⟨i, by omega, h1, h2⟩
          · rintro ⟨a, h1, h2, h3⟩
            by_cases hai : a = i
            · subst hai; exact .inr ⟨h2, h3⟩
            · exact .inl ⟨a, by omega, h2, h3⟩
      · (refine W.cond true ?_ ?_; (focus (simp [hjt]; done)); simp only [if_true])
        (refine W.skip ?_; try simp only [andThen, endBlock])
        have hn := (hf1.ext hbef.ext).el i hlt
        obtain ⟨q, hqx, hql⟩ : ∃ q : Nat, ix (lx nx i) j = (q : Int) ∧ q < nx.length := by
          have := hval.2.2.2 i hlt _ (ix_mem hjt)
          exact ⟨(ix (lx nx i) j).toNat, by omega, by omega⟩
        have hcl := hbef.len
        have hbq := hbnd q hql
        have hs2i := hs2 i hlt
        have hq : IntSl A4 (vx cs q) (L q) := (hbef.el q hql).sl (by rw [Most_eq]; omega)
        have hidx : idxV Tryz.prog 25 (.slice A1.next 0 nx.length nx.length true 1) (.int .i64 (q : Int)) = some (.ptr A1.next q) := by
          rw [idxV_slice Tryz.underlying25 Tryz.sz36 hql]; simp
        have hload : loadA Tryz.prog A4 36 (.ptr A1.next q) = some (vx cs q) := by rw [cell_load hbef.get Tryz.sh36, vx_get (by omega)]
        obtain ⟨v', A5, g1, g2, g3, g4⟩ := hbef.append hql (i : Int) (by omega)
        have hst := arr_store (P := Tryz.prog) g2 Tryz.sz36 g3 (show q < cs.length by omega)
        have hcont' : ∀ k, k < nx.length → ∀ x, x ∈ updL L q (L q ++ [(i : Int)]) k ↔ (∃ a : Nat, a < i ∧ x = (a : Int) ∧ (k : Int) ∈ lx nx a) ∨ (x = (i : Int) ∧ (k : Int) ∈ (lx nx i).take (j + 1)) := by
          intro k hk x
          rw [take_ix hjt, hqx, List.mem_append, List.mem_singleton]
          by_cases hkq : k = q
          · subst hkq
            rw [updL_same, List.mem_append, List.mem_singleton, hcont k hk x]
            constructor
            · rintro ((h | ⟨h1, h2⟩) | h)
              · exact .inl h
              · exact .inr ⟨h1, .inl h2⟩
              · exact .inr ⟨h, .inr rfl⟩
            · rintro (h | ⟨h1, h2⟩)
              · exact .inl (.inl h)
              · exact .inr h1
          · rw [updL_other hkq, hcont k hk x]
            have : ¬ (k : Int) = (q : Int) := by omega
            simp [this]
        have hbnd' : ∀ k, k < nx.length → (updL L q (L q ++ [(i : Int)]) k).length ≤ 1000 * i + (j + 1) := fun k hk => by
          by_cases hkq : k = q
          · subst hkq; rw [updL_same]; simp; omega
          · rw [updL_other hkq]; have := hbnd k hk; omega
        refine W.seq ?_
        refine W.block ?_
        refine W.seq ?_
        (refine W.region (by rfl) ?_; (repeat (first | (refine OpsW.step rfl ?_; simp [opV, e25, e27, IntSl.idx hn Tryz.underlying36 Tryz.sz3 hjt, IntSl.load hn Tryz.sh3 hjt, hqx]; done) | (refine OpsW.step rfl ?_; simp [opV, e25, e27, IntSl.idx hn Tryz.underlying36 Tryz.sz3 hjt, IntSl.load hn Tryz.sh3 hjt, hqx]) | (refine OpsW.step ?_ ?_; (focus (simp [wantedA, e25, e27, IntSl.idx hn Tryz.underlying36 Tryz.sz3 hjt, IntSl.load hn Tryz.sh3 hjt, hqx]; done)); simp [opV, e25, e27, IntSl.idx hn Tryz.underlying36 Tryz.sz3 hjt, IntSl.load hn Tryz.sh3 hjt, hqx]) | (refine OpsW.un ?_ ?_; (focus (simp [wantedA, e25, e27, IntSl.idx hn Tryz.underlying36 Tryz.sz3 hjt, IntSl.load hn Tryz.sh3 hjt, hqx]; done))))); (refine OpsW.nil ?_; try simp only [andThen, endBlock]))
        refine W.seq ?_
        (refine W.region (by rfl) ?_; (repeat (first | (refine OpsW.step rfl ?_; simp [opV, e3, hidx, hload, IntSl.len hq (P := Tryz.prog) Tryz.underlying36]; done) | (refine OpsW.step rfl ?_; simp [opV, e3, hidx, hload, IntSl.len hq (P := Tryz.prog) Tryz.underlying36]) | (refine OpsW.step ?_ ?_; (focus (simp [wantedA, e3, hidx, hload, IntSl.len hq (P := Tryz.prog) Tryz.underlying36]; done)); simp [opV, e3, hidx, hload, IntSl.len hq (P := Tryz.prog) Tryz.underlying36]) | (refine OpsW.un ?_ ?_; (focus (simp [wantedA, e3, hidx, hload, IntSl.len hq (P := Tryz.prog) Tryz.underlying36]; done))))); (refine OpsW.nil ?_; try simp only [andThen, endBlock]))
        refine W.seq ?_
        by_cases c1 : L q = []
        · (refine W.region (by rfl) ?_; (repeat (first | (refine OpsW.step rfl ?_; simp [opV, c1]; done) | (refine OpsW.step rfl ?_; simp [opV, c1]) | (refine OpsW.step ?_ ?_; (focus (simp [wantedA, c1]; done)); simp [opV, c1]) | (refine OpsW.un ?_ ?_; (focus (simp [wantedA, c1]; done))))); (refine OpsW.nil ?_; try simp only [andThen, endBlock]))
          (refine W.cond true ?_ ?_; (focus (simp; done)); simp only [if_true])
          ((try simp only [andThen, endBlock, if_true]); repeat (first | with_reducible refine W.seq ?_ | with_reducible refine W.block ?_ | (refine W.region (by rfl) ?_; (repeat (first | (refine OpsW.step rfl ?_; simp [opV, e3, e4, hidx, hload, allocL_slice1, opA_append, g1, hst]; done) | (refine OpsW.step rfl ?_; simp [opV, e3, e4, hidx, hload, allocL_slice1, opA_append, g1, hst]) | (refine OpsW.step ?_ ?_; (focus (simp [wantedA, e3, e4, hidx, hload, allocL_slice1, opA_append, g1, hst]; done)); simp [opV, e3, e4, hidx, hload, allocL_slice1, opA_append, g1, hst]) | (refine OpsW.un ?_ ?_; (focus (simp [wantedA, e3, e4, hidx, hload, allocL_slice1, opA_append, g1, hst]; done))))); (refine OpsW.nil ?_; try simp only [andThen, endBlock]))))
          ((try simp only [andThen, endBlock, if_true]); repeat (first | with_reducible refine W.seq ?_ | with_reducible refine W.block ?_ | (refine W.region (by rfl) ?_; (repeat (first | (refine OpsW.step rfl ?_; simp [opV, e27]; done) | (refine OpsW.step rfl ?_; simp [opV, e27]) | (refine OpsW.step ?_ ?_; (focus (simp [wantedA, e27]; done)); simp [opV, e27]) | (refine OpsW.un ?_ ?_; (focus (simp [wantedA, e27]; done))))); (refine OpsW.nil ?_; try simp only [andThen, endBlock]))))
          exact ⟨_, by omega, j + 1, cs.set q v', _, rfl, by omega, by simp [e3], by simp [e17], by simp [e18], by simp [e19], by simp [e4], by simp [e25], by simp [e26], by simp [wrap_succ hjt hn.2], g4, hbnd', hcont'⟩
        · have hlen0 : 0 < (L q).length := Nat.pos_of_ne_zero fun h => c1 (List.length_eq_zero_iff.1 h)
          have hlast : (L q).length - 1 < (L q).length := by omega
          have hwp : IntKind.i64.wrap (((L q).length : Int) - 1) = (((L q).length - 1 : Nat) : Int) := wrap_pred (n := (L q).length + 1) hlen0 (by omega) (by rw [Most_eq]; omega)
          by_cases c2 : ix (L q) ((L q).length - 1) = (i : Int)
          · (refine W.region (by rfl) ?_; (repeat (first | (refine OpsW.step rfl ?_; simp [opV, e3, e4, c1, hidx, hload, hwp, IntSl.idx hq Tryz.underlying36 Tryz.sz3 hlast, IntSl.load hq Tryz.sh3 hlast, c2]; done) | (refine OpsW.step rfl ?_; simp [opV, e3, e4, c1, hidx, hload, hwp, IntSl.idx hq Tryz.underlying36 Tryz.sz3 hlast, IntSl.load hq Tryz.sh3 hlast, c2]) | (refine OpsW.step ?_ ?_; (focus (simp [wantedA, e3, e4, c1, hidx, hload, hwp, IntSl.idx hq Tryz.underlying36 Tryz.sz3 hlast, IntSl.load hq Tryz.sh3 hlast, c2]; done)); simp [opV, e3, e4, c1, hidx, hload, hwp, IntSl.idx hq Tryz.underlying36 Tryz.sz3 hlast, IntSl.load hq Tryz.sh3 hlast, c2]) | (refine OpsW.un ?_ ?_; (focus (simp [wantedA, e3, e4, c1, hidx, hload, hwp, IntSl.idx hq Tryz.underlying36 Tryz.sz3 hlast, IntSl.load hq Tryz.sh3 hlast, c2]; done))))); (refine OpsW.nil ?_; try simp only [andThen, endBlock]))
            (refine W.cond false ?_ ?_; (focus (simp; done)); simp only [Bool.false_eq_true, if_false])
            (refine W.skip ?_; try simp only [andThen, endBlock])
            ((try simp only [andThen, endBlock, if_true]); repeat (first | with_reducible refine W.seq ?_ | with_reducible refine W.block ?_ | (refine W.region (by rfl) ?_; (repeat (first | (refine OpsW.step rfl ?_; simp [opV, e27]; done) | (refine OpsW.step rfl ?_; simp [opV, e27]) | (refine OpsW.step ?_ ?_; (focus (simp [wantedA, e27]; done)); simp [opV, e27]) | (refine OpsW.un ?_ ?_; (focus (simp [wantedA, e27]; done))))); (refine OpsW.nil ?_; try simp only [andThen, endBlock]))))
            refine ⟨_, ?_, j + 1, cs, L, rfl, by omega, by simp [e3], by simp [e17], by simp [e18], by simp [e19], by simp [e4], by simp [e25], by simp [e26], by simp [wrap_succ hjt hn.2], hbef, fun k hk => by have := hbnd k hk; omega, fun k hk x => ?_⟩
            · omega
            · have hmem : (i : Int) ∈ L q := by rw [← c2]; exact ix_mem hlast
              rw [hcont k hk x, take_ix hjt, hqx, List.mem_append, List.mem_singleton]
              constructor
              · rintro (h | ⟨h1, h2⟩)
                · exact .inl h
                · exact .inr ⟨h1, .inl h2⟩
              · rintro (h | ⟨h1, h2 | h2⟩)
                · exact .inl h
                · exact .inr ⟨h1, h2⟩
                · have hkq : k = q := by omega
                  subst hkq
                  rw [h1]
                  exact (hcont k hk _).1 hmem
          · (refine W.region (by rfl) ?_; (repeat (first | (refine OpsW.step rfl ?_; simp [opV, e3, e4, c1, hidx, hload, hwp, IntSl.idx hq Tryz.underlying36 Tryz.sz3 hlast, IntSl.load hq Tryz.sh3 hlast, c2]; done) | (refine OpsW.step rfl ?_; simp [opV, e3, e4, c1, hidx, hload, hwp, IntSl.idx hq Tryz.underlying36 Tryz.sz3 hlast, IntSl.load hq Tryz.sh3 hlast, c2]) | (refine OpsW.step ?_ ?_; (focus (simp [wantedA, e3, e4, c1, hidx, hload, hwp, IntSl.idx hq Tryz.underlying36 Tryz.sz3 hlast, IntSl.load hq Tryz.sh3 hlast, c2]; done)); simp [opV, e3, e4, c1, hidx, hload, hwp, IntSl.idx hq Tryz.underlying36 Tryz.sz3 hlast, IntSl.load hq Tryz.sh3 hlast, c2]) | (refine OpsW.un ?_ ?_; (focus (simp [wantedA, e3, e4, c1, hidx, hload, hwp, IntSl.idx hq Tryz.underlying36 Tryz.sz3 hlast, IntSl.load hq Tryz.sh3 hlast, c2]; done))))); (refine OpsW.nil ?_; try simp only [andThen, endBlock]))
            (refine W.cond true ?_ ?_; (focus (simp; done)); simp only [if_true])
            ((try simp only [andThen, endBlock, if_true]); repeat (first | with_reducible refine W.seq ?_ | with_reducible refine W.block ?_ | (refine W.region (by rfl) ?_; (repeat (first | (refine OpsW.step rfl ?_; simp [opV, e3, e4, hidx, hload, allocL_slice1, opA_append, g1, hst]; done) | (refine OpsW.step rfl ?_; simp [opV, e3, e4, hidx, hload, allocL_slice1, opA_append, g1, hst]) | (refine OpsW.step ?_ ?_; (focus (simp [wantedA, e3, e4, hidx, hload, allocL_slice1, opA_append, g1, hst]; done)); simp [opV, e3, e4, hidx, hload, allocL_slice1, opA_append, g1, hst]) | (refine OpsW.un ?_ ?_; (focus (simp [wantedA, e3, e4, hidx, hload, allocL_slice1, opA_append, g1, hst]; done))))); (refine OpsW.nil ?_; try simp only [andThen, endBlock]))))
            ((try simp only [andThen, endBlock, if_true]); repeat (first | with_reducible refine W.seq ?_ | with_reducible refine W.block ?_ | (refine W.region (by rfl) ?_; (repeat (first | (refine OpsW.step rfl ?_; simp [opV, e27]; done) | (refine OpsW.step rfl ?_; simp [opV, e27]) | (refine OpsW.step ?_ ?_; (focus (simp [wantedA, e27]; done)); simp [opV, e27]) | (refine OpsW.un ?_ ?_; (focus (simp [wantedA, e27]; done))))); (refine OpsW.nil ?_; try simp only [andThen, endBlock]))))
            exact ⟨_, by omega, j + 1, cs.set q v', _, rfl, by omega, by simp [e3], by simp [e17], by simp [e18], by simp [e19], by simp [e4], by simp [e25], by simp [e26], by simp [wrap_succ hjt hn.2], g4, hbnd', hcont'⟩
    · clear hbef hbef3 hbnd hcont hn3 hx3 hg hld hst hf3
      rintro x e A4 ⟨rfl, cs, L, e3, e17, e18, e19, hbef, hbnd, hcont⟩
      ((try simp only [andThen, endBlock, if_true]); repeat (first | with_reducible refine W.seq ?_ | with_reducible refine W.block ?_ | (refine W.region (by rfl) ?_; (repeat (first | (refine OpsW.step rfl ?_; simp [opV, e19]; done) | (refine OpsW.step rfl ?_; simp [opV, e19]) | (refine OpsW.step ?_ ?_; (focus (simp [wantedA, e19]; done)); simp [opV, e19]) | (refine OpsW.un ?_ ?_; (focus (simp [wantedA, e19]; done))))); (refine OpsW.nil ?_; try simp only [andThen, endBlock]))))
      exact ⟨_, by omega, i + 1, cs, L, rfl, by omega, by simp [e3], by simp [e17], by simp [e18], by simp [wrap_succ hlt h.le], hbef, hbnd, hcont⟩
end Go.Proofs

/-! Solve of the program. -/
namespace Go.Ab
/-! a round of the program: only changes behind a point are told -/
structure PRnd (n : Nat) (E : Nat → Nat → Prop) (G K Y0 X Y : Nat → Nat) (more : Bool) : Prop where
  good : GoodF n E G K X Y
  my : ∀ a, a < n → Sub (Y0 a) (Y a)
  no : more = false → ∀ a, a < n → Y a = Y0 a
  yes : more = true → ∃ a, a < n ∧ Y a ≠ Y0 a
variable {n : Nat} {E : Nat → Nat → Prop} {G K X Y Y0 : Nat → Nat} {more : Bool}
theorem PRnd.start (h : GoodF n E G K X Y) : PRnd n E G K Y X Y false := ⟨h, fun _ _ => Sub.refl _, fun _ _ _ => rfl, fun h => by cases h⟩
theorem PRnd.join (h : PRnd n E G K Y0 X Y more) {s d : Nat} (hs : s < n) (hd : d < n) (he : E s d) : PRnd n E G K Y0 (updF X d (X d ||| Y s)) Y more := ⟨h.good.join hs hd he, h.my, h.no, h.yes⟩
theorem PRnd.pass (h : PRnd n E G K Y0 X Y more) (hG : ∀ a, a < n → G a < 2 ^ 1024) {a : Nat} (ha : a < n) (hne : ¬ thr (X a) (G a) (K a) = Y a) : PRnd n E G K Y0 X (updF Y a (thr (X a) (G a) (K a))) true := by
  have hsub : ∀ i, i < n → Sub (Y i) (updF Y a (thr (X a) (G a) (K a)) i) := fun i hi => by
    by_cases hia : i = a
    · subst hia; rw [updF_same]; exact h.good.below i hi
    · rw [updF_other hia]; exact Sub.refl _
  refine ⟨h.good.pass hG ha, fun i hi => (h.my i hi).trans (hsub i hi), (fun hm => by cases hm), fun _ => ⟨a, ha, fun he => hne ?_⟩⟩
  rw [updF_same] at he
  refine Sub.antisymm ?_ (h.good.below a ha)
  rw [he]; exact h.my a ha
noncomputable def pleft (n : Nat) (Y : Nat → Nat) (more : Bool) : Nat := if more then 1 + (n * 1024 - total n Y) else 0
theorem PRnd.left (h : PRnd n E G K Y0 X Y more) (h0 : ∀ a, a < n → Y0 a < 2 ^ 1024) : pleft n Y more < pleft n Y0 true := by
  have hy := total_mono h.my h0 h.good.ylt
  have b2 := total_le n Y
  unfold pleft
  cases more with
  | false => simp; omega
  | true =>
    obtain ⟨a, ha, hne⟩ := h.yes rfl
    simp only [if_true]
    have := hy.2 ⟨a, ha, hne⟩; omega
/-- what is known of the points that were passed -/
def Pas (n : Nat) (E : Nat → Nat → Prop) (G K Y0 X : Nat → Nat) (j : Nat) : Prop := Y0 j = thr (X j) (G j) (K j) ∧ ∀ s, s < n → E s j → Sub (Y0 s) (X j)
theorem Pas.upd {j d v : Nat} (h : Pas n E G K Y0 X j) (hne : j ≠ d) : Pas n E G K Y0 (updF X d v) j := by
  unfold Pas; rw [updF_other hne]; exact h
theorem PRnd.done (h : PRnd n E G K Y0 X Y false) (hp : ∀ j, j < n → Pas n E G K Y0 X j) : Least n E G K X Y :=
  ⟨⟨fun a ha => by rw [h.no rfl a ha]; exact (hp a ha).1, fun s d hs hd he => by rw [h.no rfl s hs]; exact (hp d hd).2 s hs he⟩, h.good.low⟩
end Go.Ab
namespace Go.Proofs
open Go Go.Ab
/-- what a call of Solve is about -/
structure PC where
  B : AH
  bi : Nat
  bo : Nat
  bg : Nat
  bk : Nat
  n : Nat
  g : Nat
  cp : Nat
  nx : List (List Int)
  gs : List (List Int)
  ks : List (List Int)
  fr : Nat → List Int
  fv : Nat → AV
  fwd : Bool
structure PC.Ok [LoopTab] (c : PC) : Prop where
  hn : c.n = c.nx.length
  le : c.n ≤ 900
  ag : ArrB c.B c.bg c.n (GK c.gs)
  ak : ArrB c.B c.bk c.n (GK c.ks)
  hbi : c.B.next ≤ c.bi
  hbo : c.B.next ≤ c.bo
  ne : c.bi ≠ c.bo
  glt : ∀ a, a < c.n → GK c.gs a < 2 ^ 1024
  call : ∀ A i, Ext c.B A → i < c.n → FnW Tryz.prog c.g [IV i, .ptr c.cp 0] A fun u A' => u = c.fv i ∧ A = A'
  list : ∀ i, i < c.n → IntSl c.B (c.fv i) (c.fr i)
  mem : ∀ i, i < c.n → ∀ x, x ∈ c.fr i ↔ ∃ s : Nat, s < c.n ∧ x = (s : Int) ∧ Edge c.fwd c.nx s i
structure PSt (c : PC) (e : En) (A : AH) (X Y : Nat → Nat) (more : Bool) : Prop where
  e1 : e.get 1 = .bool c.fwd
  e12 : e.get 12 = IV c.n
  e13 : e.get 13 = .slice c.bg 0 c.n c.n true 16
  e15 : e.get 15 = .slice c.bk 0 c.n c.n true 16
  e17 : e.get 17 = .func c.g [] [.ptr c.cp 0]
  e18 : e.get 18 = .slice c.bi 0 c.n c.n true 16
  e19 : e.get 19 = .slice c.bo 0 c.n c.n true 16
  e20 : e.get 20 = .bool more
  ext : Ext c.B A
  ai : ArrB A c.bi c.n X
  ao : ArrB A c.bo c.n Y
theorem PSt.to {c : PC} {e e' : En} {A A' : AH} {X Y X' Y' : Nat → Nat} {more more' : Bool} (s : PSt c e A X Y more) (hk : ∀ t ∈ [1, 12, 13, 15, 17, 18, 19], e'.get t = e.get t) (h20 : e'.get 20 = .bool more') (hx : Ext c.B A') (ai : ArrB A' c.bi c.n X') (ao : ArrB A' c.bo c.n Y') : PSt c e' A' X' Y' more' :=
  ⟨(hk 1 (by simp)).trans s.e1, (hk 12 (by simp)).trans s.e12, (hk 13 (by simp)).trans s.e13, (hk 15 (by simp)).trans s.e15, (hk 17 (by simp)).trans s.e17, (hk 18 (by simp)).trans s.e18, (hk 19 (by simp)).trans s.e19, h20, hx, ai, ao⟩
abbrev PC.Rn (c : PC) (Y0 X Y : Nat → Nat) (more : Bool) : Prop := PRnd c.n (Edge c.fwd c.nx) (GK c.gs) (GK c.ks) Y0 X Y more
abbrev PC.Ps (c : PC) (Y0 X : Nat → Nat) (j : Nat) : Prop := Pas c.n (Edge c.fwd c.nx) (GK c.gs) (GK c.ks) Y0 X j
def POut (c : PC) (k : Nat) (e : En) (A : AH) : Prop := ∃ X Y more, PSt c e A X Y more ∧ GoodF c.n (Edge c.fwd c.nx) (GK c.gs) (GK c.ks) X Y ∧ k = pleft c.n Y more ∧ (more = false → Least c.n (Edge c.fwd c.nx) (GK c.gs) (GK c.ks) X Y)
def POutOut (c : PC) (x : Ex) (e : En) (A : AH) : Prop := x = .exit 0 ∧ ∃ X Y, PSt c e A X Y false ∧ Least c.n (Edge c.fwd c.nx) (GK c.gs) (GK c.ks) X Y ∧ GoodF c.n (Edge c.fwd c.nx) (GK c.gs) (GK c.ks) X Y
def P1 (c : PC) (Y0 : Nat → Nat) (k : Nat) (e : En) (A : AH) : Prop := ∃ i X Y more, k = c.n - i ∧ i ≤ c.n ∧ PSt c e A X Y more ∧ e.get 61 = IV c.n ∧ e.get 62 = IV (i : Nat) ∧ c.Rn Y0 X Y more ∧ (more = false → ∀ j, j < i → c.Ps Y0 X j)
def P1out (c : PC) (Y0 : Nat → Nat) (x : Ex) (e : En) (A : AH) : Prop := x = .exit 2 ∧ ∃ X Y more, PSt c e A X Y more ∧ c.Rn Y0 X Y more ∧ (more = false → ∀ j, j < c.n → c.Ps Y0 X j)
def P2 (c : PC) (Y0 : Nat → Nat) (i : Nat) (k : Nat) (e : En) (A : AH) : Prop := ∃ j X Y more, k = (c.fr i).length - j ∧ j ≤ (c.fr i).length ∧ PSt c e A X Y more ∧ e.get 61 = IV c.n ∧ e.get 62 = IV (i : Nat) ∧ e.get 21 = IV (i : Nat) ∧ e.get 67 = c.fv i ∧ e.get 68 = IV (c.fr i).length ∧ e.get 69 = IV (j : Nat) ∧ c.Rn Y0 X Y more ∧ (more = false → (∀ j, j < i → c.Ps Y0 X j) ∧ ∀ x ∈ (c.fr i).take j, Sub (Y0 x.toNat) (X i))
def P2out (c : PC) (Y0 : Nat → Nat) (i : Nat) (x : Ex) (e : En) (A : AH) : Prop := x = .exit 4 ∧ ∃ X Y more, PSt c e A X Y more ∧ e.get 61 = IV c.n ∧ e.get 62 = IV (i : Nat) ∧ e.get 21 = IV (i : Nat) ∧ c.Rn Y0 X Y more ∧ (more = false → (∀ j, j < i → c.Ps Y0 X j) ∧ ∀ x ∈ c.fr i, Sub (Y0 x.toNat) (X i))
variable [LoopTab]
/-- in front of the rounds -/
def PPre (A4 : AH) (fwd : Bool) (n bg bk cp : Nat) (x : Ex) (e : En) (A' : AH) : Prop := x = .normal ∧ A' = A4 ∧ e.get 1 = .bool fwd ∧ e.get 12 = IV n ∧ e.get 13 = .slice bg 0 n n true 16 ∧ e.get 15 = .slice bk 0 n n true 16 ∧ e.get 17 = .func (sel fwd 29 28) [] [.ptr cp 0]
set_option maxHeartbeats 0 in
theorem psolve_spec (A : AH) (p gv kv : AV) (nx gs ks : List (List Int)) (pcs gvs kvs : List AV) (fwd : Bool) (h : Fl A p nx pcs) (hg : LL A gv gs gvs) (hk : LL A kv ks kvs) (hs1 : nx.length ≤ 900) (hs2 : ∀ i, i < nx.length → (lx nx i).length ≤ 1000) : FnW Tryz.prog 7 [.agg [p], .bool fwd, gv, kv] A fun u A' => SolveAns fwd nx gs ks u A' ∧ Ext A A' := by
  refine FnW.body Tryz.func7 (by decide) rfl Tryz.ntmps7 ?_
  generalize hE : bindArgs _ 0 _ = E
  have a0 := (congrArg (fun e => En.get e 0) hE).symm
  simp [bindArgs, kept, En.get_bind] at a0
  have a1 := (congrArg (fun e => En.get e 1) hE).symm
  simp [bindArgs, kept, En.get_bind] at a1
  have a2 := (congrArg (fun e => En.get e 2) hE).symm
  simp [bindArgs, kept, En.get_bind] at a2
  have a3 := (congrArg (fun e => En.get e 3) hE).symm
  simp [bindArgs, kept, En.get_bind] at a3
  clear hE
  refine W.seq ?_
  (refine W.region (by rfl) ?_; (repeat (first | (refine OpsW.step rfl ?_; simp [opV, a0]; done) | (refine OpsW.step rfl ?_; simp [opV, a0]) | (refine OpsW.step ?_ ?_; (focus (simp [wantedA, a0]; done)); simp [opV, a0]) | (refine OpsW.un ?_ ?_; (focus (simp [wantedA, a0]; done))))); (refine OpsW.nil ?_; try simp only [andThen, endBlock]))
  have hb := Box.new A p
  have hx := Ext.box A (.cells [p])
  have hf := h.ext hx
  generalize A.push (.cells [p]) = B at *
  refine W.seq ?_
  (refine W.region (by rfl) ?_; (repeat (first | (refine OpsW.step rfl ?_; simp [opV, box_whole hb.get Tryz.sh24]; done) | (refine OpsW.step rfl ?_; simp [opV, box_whole hb.get Tryz.sh24]) | (refine OpsW.step ?_ ?_; (focus (simp [wantedA, box_whole hb.get Tryz.sh24]; done)); simp [opV, box_whole hb.get Tryz.sh24]) | (refine OpsW.un ?_ ?_; (focus (simp [wantedA, box_whole hb.get Tryz.sh24]; done))))))
  (refine FnW.mono (before26_spec B p nx pcs hf hs1 hs2) ?_; rintro u1 A1 ⟨hans, hx1⟩)
  have hc1 : cellsOf u1 = some [u1] := by
    rcases hans with ⟨_, rfl⟩ | ⟨_, ls, vs, hl, _⟩
    · rfl
    · rcases hl.sl with ⟨rfl | rfl, _⟩ | ⟨_, _, _, _, _, rfl, _⟩ <;> rfl
  have hst1 : storeA Tryz.prog (A1.push (.cells [.nilslice])) 25 (.ptr A1.next 0) u1 = some ((A1.push (.cells [.nilslice])).put A1.next (.cells [u1])) := arr_store (get_box _) Tryz.sz25 hc1 (by simp)
  (repeat (first | (refine OpsW.step rfl ?_; simp [opV, hst1]; done) | (refine OpsW.step rfl ?_; simp [opV, hst1]) | (refine OpsW.step ?_ ?_; (focus (simp [wantedA, hst1]; done)); simp [opV, hst1]) | (refine OpsW.un ?_ ?_; (focus (simp [wantedA, hst1]; done)))))
  (refine OpsW.nil ?_; try simp only [andThen, endBlock])
  have hx2 := hx1.trans (Ext.new A1 (.cells [.nilslice]) (.cells [u1]))
  have hb11 : Box ((A1.push (.cells [.nilslice])).put A1.next (.cells [u1])) A1.next u1 := ⟨get_new _ _ _, Nat.lt_succ_self _⟩
  have hans2 : BefAns nx u1 ((A1.push (.cells [.nilslice])).put A1.next (.cells [u1])) := by
    rcases hans with hn | ⟨h1, ls, vs, h2, h3⟩
    · exact .inl hn
    · exact .inr ⟨h1, ls, vs, h2.ext (Ext.new _ _ _), h3⟩
  generalize (A1.push (.cells [.nilslice])).put A1.next (.cells [u1]) = A2 at *
  clear hans hst1
  have hf2 := hf.ext hx2
  have hb2 := hb.ext hx2
  refine W.seq ?_
  (refine W.region (by rfl) ?_; (repeat (first | (refine OpsW.step rfl ?_; simp [opV, box_load hb2.get Tryz.sh22, Fl.len hf2 (P := Tryz.prog) Tryz.underlying22]; done) | (refine OpsW.step rfl ?_; simp [opV, box_load hb2.get Tryz.sh22, Fl.len hf2 (P := Tryz.prog) Tryz.underlying22]) | (refine OpsW.step ?_ ?_; (focus (simp [wantedA, box_load hb2.get Tryz.sh22, Fl.len hf2 (P := Tryz.prog) Tryz.underlying22]; done)); simp [opV, box_load hb2.get Tryz.sh22, Fl.len hf2 (P := Tryz.prog) Tryz.underlying22]) | (refine OpsW.un ?_ ?_; (focus (simp [wantedA, box_load hb2.get Tryz.sh22, Fl.len hf2 (P := Tryz.prog) Tryz.underlying22]; done))))); (refine OpsW.nil ?_; try simp only [andThen, endBlock]))
  refine W.seq ?_
  (refine W.region (by rfl) ?_; (repeat (first | (refine OpsW.step rfl ?_; simp [opV, a2]; done) | (refine OpsW.step rfl ?_; simp [opV, a2]) | (refine OpsW.step ?_ ?_; (focus (simp [wantedA, a2]; done)); simp [opV, a2]) | (refine OpsW.un ?_ ?_; (focus (simp [wantedA, a2]; done))))))
  (refine FnW.mono (psets_spec A2 gv gs gvs nx.length ((hg.ext hx).ext hx2) (by omega)) ?_; rintro u2 A3 ⟨hag, hx3⟩)
  obtain ⟨x2, t2, rfl, hif2, hnot2⟩ : ∃ x2 t2, u2 = .tup [x2, .bool t2] ∧ (t2 = true → SetsL gs nx.length ∧ ∃ β, x2 = .slice β 0 nx.length nx.length true 16 ∧ ArrB A3 β nx.length (GK gs)) ∧ (t2 = false → ¬ SetsL gs nx.length) := by
    rcases hag with ⟨h1, x, rfl⟩ | ⟨h1, β, rfl, h2, _⟩
    · exact ⟨x, false, rfl, fun h => (nomatch h), fun _ => h1⟩
    · exact ⟨_, true, rfl, fun _ => ⟨h1, β, rfl, h2⟩, fun h => nomatch h⟩
  (repeat (first | (refine OpsW.step rfl ?_; simp [opV]; done) | (refine OpsW.step rfl ?_; simp [opV]) | (refine OpsW.step ?_ ?_; (focus (simp [wantedA]; done)); simp [opV]) | (refine OpsW.un ?_ ?_; (focus (simp [wantedA]; done)))))
  (refine OpsW.nil ?_; try simp only [andThen, endBlock])
  refine W.seq ?_
  (refine W.region (by rfl) ?_; (repeat (first | (refine OpsW.step rfl ?_; simp [opV, a3]; done) | (refine OpsW.step rfl ?_; simp [opV, a3]) | (refine OpsW.step ?_ ?_; (focus (simp [wantedA, a3]; done)); simp [opV, a3]) | (refine OpsW.un ?_ ?_; (focus (simp [wantedA, a3]; done))))))
  (refine FnW.mono (psets_spec A3 kv ks kvs nx.length (((hk.ext hx).ext hx2).ext hx3) (by omega)) ?_; rintro u3 A4 ⟨hak, hx4⟩)
  obtain ⟨x3, t3, rfl, hif3, hnot3⟩ : ∃ x2 t2, u3 = .tup [x2, .bool t2] ∧ (t2 = true → SetsL ks nx.length ∧ ∃ β, x2 = .slice β 0 nx.length nx.length true 16 ∧ ArrB A4 β nx.length (GK ks)) ∧ (t2 = false → ¬ SetsL ks nx.length) := by
    rcases hak with ⟨h1, x, rfl⟩ | ⟨h1, β, rfl, h2, _⟩
    · exact ⟨x, false, rfl, fun h => (nomatch h), fun _ => h1⟩
    · exact ⟨_, true, rfl, fun _ => ⟨h1, β, rfl, h2⟩, fun h => nomatch h⟩
  clear hag hak
  (repeat (first | (refine OpsW.step rfl ?_; simp [opV]; done) | (refine OpsW.step rfl ?_; simp [opV]) | (refine OpsW.step ?_ ?_; (focus (simp [wantedA]; done)); simp [opV]) | (refine OpsW.un ?_ ?_; (focus (simp [wantedA]; done)))))
  (refine OpsW.nil ?_; try simp only [andThen, endBlock])
  have hb114 := (hb11.ext hx3).ext hx4
  have hx04 : Ext A A4 := hx.trans (hx2.trans (hx3.trans hx4))
  have bad : ¬ (ValidF nx ∧ SetsL gs nx.length ∧ SetsL ks nx.length) → SolveAns fwd nx gs ks (.tup [.nilslice, .nilslice, IV 1]) A4 := fun hn => .inl ⟨hn, .nilslice, .nilslice, rfl, ⟨.inl ⟨.inl rfl, rfl, rfl⟩, fun i hi => by simp at hi, by simp⟩, ⟨.inl ⟨.inl rfl, rfl, rfl⟩, fun i hi => by simp at hi, by simp⟩⟩
  rcases hans2 with ⟨hn, rfl⟩ | ⟨hval, ls, vs, hl, hleads⟩
  · ((try simp only [andThen, endBlock, if_true]); repeat (first | with_reducible refine W.seq ?_ | with_reducible refine W.block ?_ | (refine W.region (by rfl) ?_; (repeat (first | (refine OpsW.step rfl ?_; simp [opV, box_load hb114.get Tryz.sh25, lenV_nil Tryz.underlying25]; done) | (refine OpsW.step rfl ?_; simp [opV, box_load hb114.get Tryz.sh25, lenV_nil Tryz.underlying25]) | (refine OpsW.step ?_ ?_; (focus (simp [wantedA, box_load hb114.get Tryz.sh25, lenV_nil Tryz.underlying25]; done)); simp [opV, box_load hb114.get Tryz.sh25, lenV_nil Tryz.underlying25]) | (refine OpsW.un ?_ ?_; (focus (simp [wantedA, box_load hb114.get Tryz.sh25, lenV_nil Tryz.underlying25]; done))))); (refine OpsW.nil ?_; try simp only [andThen, endBlock]))))
    (refine W.cond true ?_ ?_; (focus (simp; done)); simp only [if_true])
    ((try simp only [andThen, endBlock, if_true]); repeat (first | with_reducible refine W.seq ?_ | with_reducible refine W.block ?_ | (refine W.region (by rfl) ?_; (repeat (first | (refine OpsW.step rfl ?_; simp [opV]; done) | (refine OpsW.step rfl ?_; simp [opV]) | (refine OpsW.step ?_ ?_; (focus (simp [wantedA]; done)); simp [opV]) | (refine OpsW.un ?_ ?_; (focus (simp [wantedA]; done))))); (refine OpsW.nil ?_; try simp only [andThen, endBlock]))))
    (refine W.ret ?_; try simp only [andThen, endBlock])
    refine ⟨.inr rfl, [.nilslice, .nilslice, IV 1], by simp [Tryz.f7, resultsA, resultA], ?_⟩
    exact ⟨bad fun hS => hn hS.1, hx04⟩
  have hlen : lenV Tryz.prog A4 25 u1 = some (.int .i64 (nx.length : Int)) := by rw [← hleads.1]; exact LL.len hl Tryz.underlying25
  have hne0 : nx ≠ [] := fun e => by have := hval.1; rw [e] at this; simp at this
  cases t2 with
  | false =>
    ((try simp only [andThen, endBlock, if_true]); repeat (first | with_reducible refine W.seq ?_ | with_reducible refine W.block ?_ | (refine W.region (by rfl) ?_; (repeat (first | (refine OpsW.step rfl ?_; simp [opV, box_load hb114.get Tryz.sh25, hlen, hne0]; done) | (refine OpsW.step rfl ?_; simp [opV, box_load hb114.get Tryz.sh25, hlen, hne0]) | (refine OpsW.step ?_ ?_; (focus (simp [wantedA, box_load hb114.get Tryz.sh25, hlen, hne0]; done)); simp [opV, box_load hb114.get Tryz.sh25, hlen, hne0]) | (refine OpsW.un ?_ ?_; (focus (simp [wantedA, box_load hb114.get Tryz.sh25, hlen, hne0]; done))))); (refine OpsW.nil ?_; try simp only [andThen, endBlock]))))
    (refine W.cond true ?_ ?_; (focus (simp; done)); simp only [if_true])
    ((try simp only [andThen, endBlock, if_true]); repeat (first | with_reducible refine W.seq ?_ | with_reducible refine W.block ?_ | (refine W.region (by rfl) ?_; (repeat (first | (refine OpsW.step rfl ?_; simp [opV]; done) | (refine OpsW.step rfl ?_; simp [opV]) | (refine OpsW.step ?_ ?_; (focus (simp [wantedA]; done)); simp [opV]) | (refine OpsW.un ?_ ?_; (focus (simp [wantedA]; done))))); (refine OpsW.nil ?_; try simp only [andThen, endBlock]))))
    (refine W.ret ?_; try simp only [andThen, endBlock])
    refine ⟨.inr rfl, [.nilslice, .nilslice, IV 1], by simp [Tryz.f7, resultsA, resultA], ?_⟩
    exact ⟨bad fun hS => hnot2 rfl hS.2.1, hx04⟩
  | true =>
  cases t3 with
  | false =>
    ((try simp only [andThen, endBlock, if_true]); repeat (first | with_reducible refine W.seq ?_ | with_reducible refine W.block ?_ | (refine W.region (by rfl) ?_; (repeat (first | (refine OpsW.step rfl ?_; simp [opV, box_load hb114.get Tryz.sh25, hlen, hne0]; done) | (refine OpsW.step rfl ?_; simp [opV, box_load hb114.get Tryz.sh25, hlen, hne0]) | (refine OpsW.step ?_ ?_; (focus (simp [wantedA, box_load hb114.get Tryz.sh25, hlen, hne0]; done)); simp [opV, box_load hb114.get Tryz.sh25, hlen, hne0]) | (refine OpsW.un ?_ ?_; (focus (simp [wantedA, box_load hb114.get Tryz.sh25, hlen, hne0]; done))))); (refine OpsW.nil ?_; try simp only [andThen, endBlock]))))
    (refine W.cond true ?_ ?_; (focus (simp; done)); simp only [if_true])
    ((try simp only [andThen, endBlock, if_true]); repeat (first | with_reducible refine W.seq ?_ | with_reducible refine W.block ?_ | (refine W.region (by rfl) ?_; (repeat (first | (refine OpsW.step rfl ?_; simp [opV]; done) | (refine OpsW.step rfl ?_; simp [opV]) | (refine OpsW.step ?_ ?_; (focus (simp [wantedA]; done)); simp [opV]) | (refine OpsW.un ?_ ?_; (focus (simp [wantedA]; done))))); (refine OpsW.nil ?_; try simp only [andThen, endBlock]))))
    (refine W.ret ?_; try simp only [andThen, endBlock])
    refine ⟨.inr rfl, [.nilslice, .nilslice, IV 1], by simp [Tryz.f7, resultsA, resultA], ?_⟩
    exact ⟨bad fun hS => hnot3 rfl hS.2.2, hx04⟩
  | true =>
  obtain ⟨hsg, bg, rfl, hag⟩ := hif2 rfl
  obtain ⟨hsk, bk, rfl, hak⟩ := hif3 rfl
  ((try simp only [andThen, endBlock, if_true]); repeat (first | with_reducible refine W.seq ?_ | with_reducible refine W.block ?_ | (refine W.region (by rfl) ?_; (repeat (first | (refine OpsW.step rfl ?_; simp [opV, box_load hb114.get Tryz.sh25, hlen, hne0]; done) | (refine OpsW.step rfl ?_; simp [opV, box_load hb114.get Tryz.sh25, hlen, hne0]) | (refine OpsW.step ?_ ?_; (focus (simp [wantedA, box_load hb114.get Tryz.sh25, hlen, hne0]; done)); simp [opV, box_load hb114.get Tryz.sh25, hlen, hne0]) | (refine OpsW.un ?_ ?_; (focus (simp [wantedA, box_load hb114.get Tryz.sh25, hlen, hne0]; done))))); (refine OpsW.nil ?_; try simp only [andThen, endBlock]))))
  (refine W.cond false ?_ ?_; (focus (simp; done)); simp only [Bool.false_eq_true, if_false])
  (refine W.skip ?_; try simp only [andThen, endBlock])
  clear bad hnot2 hnot3 hif2 hif3 hlen
  have hag4 := hag.ext hx4
  refine W.seq ?_
  (refine W.region (by rfl) ?_; (repeat (first | (refine OpsW.step rfl ?_; simp [opV]; done) | (refine OpsW.step rfl ?_; simp [opV]) | (refine OpsW.step ?_ ?_; (focus (simp [wantedA]; done)); simp [opV]) | (refine OpsW.un ?_ ?_; (focus (simp [wantedA]; done))))); (refine OpsW.nil ?_; try simp only [andThen, endBlock]))
  refine W.seq ?_
  refine W.seq ?_
  (refine W.region (by rfl) ?_; (repeat (first | (refine OpsW.step rfl ?_; simp [opV, a1]; done) | (refine OpsW.step rfl ?_; simp [opV, a1]) | (refine OpsW.step ?_ ?_; (focus (simp [wantedA, a1]; done)); simp [opV, a1]) | (refine OpsW.un ?_ ?_; (focus (simp [wantedA, a1]; done))))); (refine OpsW.nil ?_; try simp only [andThen, endBlock]))
  refine W.mono (Q := PPre A4 fwd nx.length bg bk (sel fwd A1.next A.next)) ?_ ?_
  · cases fwd with
    | true =>
      (refine W.cond true ?_ ?_; (focus (simp; done)); simp only [if_true])
      ((try simp only [andThen, endBlock, if_true]); repeat (first | with_reducible refine W.seq ?_ | with_reducible refine W.block ?_ | (refine W.region (by rfl) ?_; (repeat (first | (refine OpsW.step rfl ?_; simp [opV]; done) | (refine OpsW.step rfl ?_; simp [opV]) | (refine OpsW.step ?_ ?_; (focus (simp [wantedA]; done)); simp [opV]) | (refine OpsW.un ?_ ?_; (focus (simp [wantedA]; done))))); (refine OpsW.nil ?_; try simp only [andThen, endBlock]))))
      exact ⟨by simp, rfl, by simp [a1], by simp, by simp, by simp, by simp [sel]⟩
    | false =>
      (refine W.cond false ?_ ?_; (focus (simp; done)); simp only [Bool.false_eq_true, if_false])
      (refine W.skip ?_; try simp only [andThen, endBlock])
      exact ⟨by simp, rfl, by simp [a1], by simp, by simp, by simp, by simp [sel]⟩
  rintro x e A5 ⟨rfl, rfl, e1, e12, e13, e15, e17⟩
  simp only [andThen]
  have hmk : mkV Tryz.prog 69 (.int .i64 (nx.length : Int)) (.int .i64 (nx.length : Int)) = some (.slc nx.length nx.length 16, .cells (List.replicate nx.length (words 0)).flatten) := mkV_of Tryz.underlying69 Tryz.zcW Tryz.sz75 (words_length 0) Tryz.ob75 (by omega)
  rw [← bcells_zero] at hmk
  refine W.seq ?_
  (refine W.drawnS mixedP self0_ok [(0, 0), (1, 0), (2, 0), (3, 0), (4, 0), (5, 0)] (by rfl) (by kernel_rfl) ?_; (repeat (first | (refine RSW.step rfl rfl ?_; simp [stepV, cls, e12, allocL_mk, hmk]) | (refine RSW.step rfl ?_ ?_; (focus (simp [wantedA, e12, allocL_mk, hmk]; done)); simp [stepV, cls, e12, allocL_mk, hmk]) | (refine RSW.un rfl ?_ ?_ ?_; (focus (simp [wantedA, e12, allocL_mk, hmk]; done)); (focus (simp [cls]; done))))); refine RSW.nil ?_; try simp only [andThen, endBlock])
  obtain ⟨c, hc⟩ : ∃ c : PC, c = ⟨A5, A5.next, A5.next + 1, bg, bk, nx.length, sel fwd 29 28, sel fwd A1.next A.next, nx, gs, ks, fun i => sel fwd (lx ls i) (lx nx i), fun i => sel fwd (vx vs i) (vx pcs (i * 3 + 2)), fwd⟩ := ⟨_, rfl⟩
  have hok : c.Ok := by
    subst hc
    refine ⟨rfl, hs1, hag4, hak, Nat.le_refl _, Nat.le_succ _, by simp, fun a ha => bitsOf_lt (hsg.2 a (by rw [hsg.1]; exact ha)), fun A' i hx' hi => ?_, fun i hi => ?_, fun i hi x => ?_⟩
    · cases fwd with
      | true => exact before_spec A' A1.next u1 ls vs i (hb114.ext hx') (((hl.ext hx3).ext hx4).ext hx') (by rw [hleads.1]; exact hi)
      | false => exact follow_spec A' A.next p nx pcs i (((hb2.ext hx3).ext hx4).ext hx') (((hf2.ext hx3).ext hx4).ext hx') hi
    · cases fwd with
      | true => exact ((hl.ext hx3).ext hx4).el i (by rw [hleads.1]; exact hi)
      | false => exact ((hf2.ext hx3).ext hx4).el i hi
    · cases fwd with
      | true =>
        exact (hleads.2 i hi x)
      | false =>
        constructor
        · intro hx
          have := hval.2.2.2 i hi x hx
          refine ⟨x.toNat, by show x.toNat < nx.length; omega, by omega, ?_⟩
          show ((x.toNat : Nat) : Int) ∈ lx nx i
          have e : ((x.toNat : Nat) : Int) = x := by omega
          rw [e]; exact hx
        · rintro ⟨s, _, rfl, hq⟩
          exact hq
  ((try simp only [andThen, endBlock, if_true]); repeat (first | with_reducible refine W.seq ?_ | with_reducible refine W.block ?_ | (refine W.region (by rfl) ?_; (repeat (first | (refine OpsW.step rfl ?_; simp [opV]; done) | (refine OpsW.step rfl ?_; simp [opV]) | (refine OpsW.step ?_ ?_; (focus (simp [wantedA]; done)); simp [opV]) | (refine OpsW.un ?_ ?_; (focus (simp [wantedA]; done))))); (refine OpsW.nil ?_; try simp only [andThen, endBlock]))))
  refine W.mono (Q := POutOut c) ?_ ?_
  · refine W.loop ?_
    refine LW.induct (POut c) ?_ _ _ _ ⟨fun _ => 0, fun _ => 0, true, ⟨by simp [hc, e1], by simp [hc, e12], by simp [hc, e13], by simp [hc, e15], by simp [hc, e17], by simp [hc], by simp [hc]; rfl, by simp, by rw [hc]; exact ((Ext.refl A5).push _).push _, by subst hc; exact ArrB.ext ⟨get_box _, Nat.lt_succ_self _⟩ (Ext.box _ _), by subst hc; exact ⟨get_box _, Nat.lt_succ_self _⟩⟩, GoodF.zero _ _ _ _, rfl, fun h => (nomatch h)⟩
    clear hc hmk e1 e12 e13 e15 e17
    rintro k e A1 ⟨X, Y, more, st, good, rfl, hleast⟩
    ((try simp only [andThen, endBlock, if_true]); repeat (first | with_reducible refine W.seq ?_ | with_reducible refine W.block ?_ | (refine W.region (by rfl) ?_; (repeat (first | (refine OpsW.step rfl ?_; simp [opV, st.e20]; done) | (refine OpsW.step rfl ?_; simp [opV, st.e20]) | (refine OpsW.step ?_ ?_; (focus (simp [wantedA, st.e20]; done)); simp [opV, st.e20]) | (refine OpsW.un ?_ ?_; (focus (simp [wantedA, st.e20]; done))))); (refine OpsW.nil ?_; try simp only [andThen, endBlock]))))
    cases more with
    | false =>
      (refine W.cond false ?_ ?_; (focus (simp; done)); simp only [Bool.false_eq_true, if_false])
      (refine W.exit ?_; try simp only [andThen, endBlock, if_true])
      exact ⟨by simp, X, Y, st.to (by simp) (by simp [st.e20]) st.ext st.ai st.ao, hleast rfl, good⟩
    | true =>
    (refine W.cond true ?_ ?_; (focus (simp; done)); simp only [if_true])
    (refine W.skip ?_; try simp only [andThen, endBlock])
    ((try simp only [andThen, endBlock, if_true]); repeat (first | with_reducible refine W.seq ?_ | with_reducible refine W.block ?_ | (refine W.region (by rfl) ?_; (repeat (first | (refine OpsW.step rfl ?_; simp [opV, st.e12]; done) | (refine OpsW.step rfl ?_; simp [opV, st.e12]) | (refine OpsW.step ?_ ?_; (focus (simp [wantedA, st.e12]; done)); simp [opV, st.e12]) | (refine OpsW.un ?_ ?_; (focus (simp [wantedA, st.e12]; done))))); (refine OpsW.nil ?_; try simp only [andThen, endBlock]))))
    clear hleast
    refine W.mono (Q := P1out c Y) ?_ ?_
    · refine W.loop ?_
      refine LW.induct (P1 c Y) ?_ _ _ _ ⟨0, X, Y, false, rfl, Nat.zero_le _, st.to (by simp) (by simp) st.ext st.ai st.ao, by simp, by simp, PRnd.start good, by simp⟩
      rintro k e A2 ⟨i, X1, Y1, more1, rfl, hi, s, e61, e62, rn, hp⟩
      ((try simp only [andThen, endBlock, if_true]); repeat (first | with_reducible refine W.seq ?_ | with_reducible refine W.block ?_ | (refine W.region (by rfl) ?_; (repeat (first | (refine OpsW.step rfl ?_; simp [opV, e61, e62]; done) | (refine OpsW.step rfl ?_; simp [opV, e61, e62]) | (refine OpsW.step ?_ ?_; (focus (simp [wantedA, e61, e62]; done)); simp [opV, e61, e62]) | (refine OpsW.un ?_ ?_; (focus (simp [wantedA, e61, e62]; done))))); (refine OpsW.nil ?_; try simp only [andThen, endBlock]))))
      by_cases hlt : i < c.n
      rotate_left
      · (refine W.cond false ?_ ?_; (focus (simp [hlt]; done)); simp only [Bool.false_eq_true, if_false])
        (refine W.exit ?_; try simp only [andThen, endBlock, if_true])
        exact ⟨by simp, X1, Y1, more1, s.to (by simp) (by simp [s.e20]) s.ext s.ai s.ao, rn, fun hm j hj => hp hm j (by omega)⟩
      · (refine W.cond true ?_ ?_; (focus (simp [hlt]; done)); simp only [if_true])
        (refine W.skip ?_; try simp only [andThen, endBlock])
        have hn900 := hok.le
        refine W.seq ?_
        refine W.block ?_
        refine W.seq ?_
        (refine W.region (by rfl) ?_; (repeat (first | (refine OpsW.step rfl ?_; simp [opV, e62]; done) | (refine OpsW.step rfl ?_; simp [opV, e62]) | (refine OpsW.step ?_ ?_; (focus (simp [wantedA, e62]; done)); simp [opV, e62]) | (refine OpsW.un ?_ ?_; (focus (simp [wantedA, e62]; done))))); (refine OpsW.nil ?_; try simp only [andThen, endBlock]))
        refine W.seq ?_
        refine W.seq ?_
        (refine W.region (by rfl) ?_; (repeat (first | (refine OpsW.step rfl ?_; simp [opV, s.e17]; done) | (refine OpsW.step rfl ?_; simp [opV, s.e17]) | (refine OpsW.step ?_ ?_; (focus (simp [wantedA, s.e17]; done)); simp [opV, s.e17]) | (refine OpsW.un ?_ ?_; (focus (simp [wantedA, s.e17]; done))))))
        (refine FnW.mono (hok.call A2 i s.ext hlt) ?_; rintro _ A3 ⟨rfl, hA⟩)
        subst hA
        have hlist := (hok.list i hlt).ext s.ext
        (repeat (first | (refine OpsW.step rfl ?_; simp [opV, IntSl.len hlist (P := Tryz.prog) Tryz.underlying36]; done) | (refine OpsW.step rfl ?_; simp [opV, IntSl.len hlist (P := Tryz.prog) Tryz.underlying36]) | (refine OpsW.step ?_ ?_; (focus (simp [wantedA, IntSl.len hlist (P := Tryz.prog) Tryz.underlying36]; done)); simp [opV, IntSl.len hlist (P := Tryz.prog) Tryz.underlying36]) | (refine OpsW.un ?_ ?_; (focus (simp [wantedA, IntSl.len hlist (P := Tryz.prog) Tryz.underlying36]; done)))))
        (refine OpsW.nil ?_; try simp only [andThen, endBlock])
        refine W.block ?_
        refine W.mono (Q := P2out c Y i) ?_ ?_
        · refine W.loop ?_
          refine LW.induct (P2 c Y i) ?_ _ _ _ ⟨0, X1, Y1, more1, rfl, Nat.zero_le _, s.to (by simp) (by simp [s.e20]) s.ext s.ai s.ao, by simp [e61], by simp [e62], by simp, by simp, by simp, by simp, rn, fun hm => ⟨hp hm, by simp⟩⟩
          clear hlist rn hp s e61 e62
          rintro k e A3 ⟨j, X2, Y2, more2, rfl, hj, s, e61, e62, e21, e67, e68, e69, rn, hp⟩
          ((try simp only [andThen, endBlock, if_true]); repeat (first | with_reducible refine W.seq ?_ | with_reducible refine W.block ?_ | (refine W.region (by rfl) ?_; (repeat (first | (refine OpsW.step rfl ?_; simp [opV, e68, e69]; done) | (refine OpsW.step rfl ?_; simp [opV, e68, e69]) | (refine OpsW.step ?_ ?_; (focus (simp [wantedA, e68, e69]; done)); simp [opV, e68, e69]) | (refine OpsW.un ?_ ?_; (focus (simp [wantedA, e68, e69]; done))))); (refine OpsW.nil ?_; try simp only [andThen, endBlock]))))
          by_cases hjt : j < (c.fr i).length
          rotate_left
          · (refine W.cond false ?_ ?_; (focus (simp [hjt]; done)); simp only [Bool.false_eq_true, if_false])
            (refine W.exit ?_; try simp only [andThen, endBlock, if_true])
            exact ⟨by simp, X2, Y2, more2, s.to (by simp) (by simp [s.e20]) s.ext s.ai s.ao, by simp [e61], by simp [e62], by simp [e21], rn, fun hm => ⟨(hp hm).1, fun x hx => (hp hm).2 x (by rw [List.take_of_length_le (by omega)]; exact hx)⟩⟩
          · (refine W.cond true ?_ ?_; (focus (simp [hjt]; done)); simp only [if_true])
            (refine W.skip ?_; try simp only [andThen, endBlock])
            have hlist := (hok.list i hlt).ext s.ext
            obtain ⟨q, hqn, hqx, hqe⟩ := (hok.mem i hlt _).1 (ix_mem hjt)
            obtain ⟨u, A4, hcall, rfl, ho, ha⟩ := join_spec A3 c.bi c.bo c.n i q X2 Y2 s.ai s.ao (fun e => hok.ne e.symm) hlt hqn (rn.good.ylt q hqn)
            refine W.seq ?_
            refine W.block ?_
            refine W.seq ?_
            (refine W.region (by rfl) ?_; (repeat (first | (refine OpsW.step rfl ?_; simp [opV, e67, e69, IntSl.idx hlist Tryz.underlying36 Tryz.sz3 hjt, IntSl.load hlist Tryz.sh3 hjt, hqx]; done) | (refine OpsW.step rfl ?_; simp [opV, e67, e69, IntSl.idx hlist Tryz.underlying36 Tryz.sz3 hjt, IntSl.load hlist Tryz.sh3 hjt, hqx]) | (refine OpsW.step ?_ ?_; (focus (simp [wantedA, e67, e69, IntSl.idx hlist Tryz.underlying36 Tryz.sz3 hjt, IntSl.load hlist Tryz.sh3 hjt, hqx]; done)); simp [opV, e67, e69, IntSl.idx hlist Tryz.underlying36 Tryz.sz3 hjt, IntSl.load hlist Tryz.sh3 hjt, hqx]) | (refine OpsW.un ?_ ?_; (focus (simp [wantedA, e67, e69, IntSl.idx hlist Tryz.underlying36 Tryz.sz3 hjt, IntSl.load hlist Tryz.sh3 hjt, hqx]; done))))); (refine OpsW.nil ?_; try simp only [andThen, endBlock]))
            (refine W.drawnS mixedP (selfC_ok hcall self0_ok) [(0, 0), (1, 0), (2, 0), (3, 0), (4, 0), (5, 0), (6, 0)] (by rfl) (by kernel_rfl) ?_; (repeat (first | (refine RSW.step rfl rfl ?_; simp [stepV, cls, s.e18, s.e19, e21, ArrB.idx Tryz.underlying69 Tryz.sz75 hlt, ArrB.idx Tryz.underlying69 Tryz.sz75 hqn, opA_callf, selfC_call]) | (refine RSW.step rfl ?_ ?_; (focus (simp [wantedA, s.e18, s.e19, e21, ArrB.idx Tryz.underlying69 Tryz.sz75 hlt, ArrB.idx Tryz.underlying69 Tryz.sz75 hqn, opA_callf, selfC_call]; done)); simp [stepV, cls, s.e18, s.e19, e21, ArrB.idx Tryz.underlying69 Tryz.sz75 hlt, ArrB.idx Tryz.underlying69 Tryz.sz75 hqn, opA_callf, selfC_call]) | (refine RSW.un rfl ?_ ?_ ?_; (focus (simp [wantedA, s.e18, s.e19, e21, ArrB.idx Tryz.underlying69 Tryz.sz75 hlt, ArrB.idx Tryz.underlying69 Tryz.sz75 hqn, opA_callf, selfC_call]; done)); (focus (simp [cls]; done))))); refine RSW.nil ?_; try simp only [andThen, endBlock])
            ((try simp only [andThen, endBlock, if_true]); repeat (first | with_reducible refine W.seq ?_ | with_reducible refine W.block ?_ | (refine W.region (by rfl) ?_; (repeat (first | (refine OpsW.step rfl ?_; simp [opV, e69]; done) | (refine OpsW.step rfl ?_; simp [opV, e69]) | (refine OpsW.step ?_ ?_; (focus (simp [wantedA, e69]; done)); simp [opV, e69]) | (refine OpsW.un ?_ ?_; (focus (simp [wantedA, e69]; done))))); (refine OpsW.nil ?_; try simp only [andThen, endBlock]))))
            refine ⟨_, ?_, j + 1, updF X2 i (X2 i ||| Y2 q), Y2, more2, rfl, by omega, s.to (by simp) (by simp [s.e20]) (ho.ext s.ext hok.hbi) ha (ho.arr s.ao (fun e => hok.ne e.symm)), by simp [e61], by simp [e62], by simp [e21], by simp [e67], by simp [e68], by simp [wrap_succ hjt hlist.2], rn.join hqn hlt hqe, fun hm => ⟨fun m hm' => ((hp hm).1 m hm').upd (by omega), ?_⟩⟩
            · omega
            · rw [updF_same]
              refine take_succ_mem hjt (fun x hx => ((hp hm).2 x hx).trans (Sub.or_left _ _)) ?_
              rw [hqx, Int.toNat_natCast, ← rn.no hm q hqn]
              exact Sub.or_right _ _
        · clear hlist rn hp s e61 e62
          rintro x e A3 ⟨rfl, X2, Y2, more2, s, e61, e62, e21, rn, hp⟩
          have hxlt := rn.good.xlt i hlt
          have hylt := rn.good.ylt i hlt
          have htlt := thr_lt (K := GK c.ks i) hxlt (hok.glt i hlt)
          obtain ⟨u, A4, hcall, rfl, hx4⟩ := pass_spec A3 c.bi c.bk c.bg c.n i i i X2 (GK c.ks) (GK c.gs) s.ai (hok.ak.ext s.ext) (hok.ag.ext s.ext) hlt hlt hlt hxlt (hok.glt i hlt)
          have hst : storeA Tryz.prog (A4.push (.cells (words 0))) 75 (.ptr A4.next 0) (.agg (words (thr (X2 i) (GK c.gs i) (GK c.ks i)))) = _ := (WordB.new A4 0).store Tryz.sz75
          simp only [andThen, endBlock, if_true]
          refine W.seq ?_
          (refine W.drawnS mixedP (selfC_ok hcall self0_ok) [(0, 0), (1, 0), (2, 0), (3, 0), (4, 0), (5, 0), (6, 0), (7, 0), (8, 0), (9, 0), (10, 0), (11, 0)] (by rfl) (by kernel_rfl) ?_; (repeat (first | (refine RSW.step rfl rfl ?_; simp [stepV, cls, s.e18, s.e15, s.e13, e21, ArrB.idx Tryz.underlying69 Tryz.sz75 hlt, hst, allocL_alloc Tryz.zcW, opA_callf, selfC_call]) | (refine RSW.step rfl ?_ ?_; (focus (simp [wantedA, s.e18, s.e15, s.e13, e21, ArrB.idx Tryz.underlying69 Tryz.sz75 hlt, hst, allocL_alloc Tryz.zcW, opA_callf, selfC_call]; done)); simp [stepV, cls, s.e18, s.e15, s.e13, e21, ArrB.idx Tryz.underlying69 Tryz.sz75 hlt, hst, allocL_alloc Tryz.zcW, opA_callf, selfC_call]) | (refine RSW.un rfl ?_ ?_ ?_; (focus (simp [wantedA, s.e18, s.e15, s.e13, e21, ArrB.idx Tryz.underlying69 Tryz.sz75 hlt, hst, allocL_alloc Tryz.zcW, opA_callf, selfC_call]; done)); (focus (simp [cls]; done))))); refine RSW.nil ?_; try simp only [andThen, endBlock])
          have hx5 := hx4.trans (Ext.new A4 (.cells (words 0)) (.cells (words (thr (X2 i) (GK c.gs i) (GK c.ks i)))))
          have hw : WordB ((A4.push (.cells (words 0))).put A4.next (.cells (words (thr (X2 i) (GK c.gs i) (GK c.ks i))))) A4.next (thr (X2 i) (GK c.gs i) (GK c.ks i)) := WordB.put _ _ (Nat.lt_succ_self _)
          generalize (A4.push (.cells (words 0))).put A4.next (.cells (words (thr (X2 i) (GK c.gs i) (GK c.ks i)))) = A5 at *
          have ai5 := s.ai.ext hx5
          have ao5 := s.ao.ext hx5
          refine W.seq ?_
          by_cases hne : thr (X2 i) (GK c.gs i) (GK c.ks i) = Y2 i
          · (refine W.drawnS mixedP self0_ok [(0, 0), (1, 0), (2, 0), (3, 0), (4, 0), (5, 0)] (by rfl) (by kernel_rfl) ?_; (repeat (first | (refine RSW.step rfl rfl ?_; simp [stepV, cls, s.e19, e21, hw.whole Tryz.sh75, ArrB.idx Tryz.underlying69 Tryz.sz75 hlt, ao5.whole Tryz.sh75 hlt, Tryz.neqW htlt hylt]) | (refine RSW.step rfl ?_ ?_; (focus (simp [wantedA, s.e19, e21, hw.whole Tryz.sh75, ArrB.idx Tryz.underlying69 Tryz.sz75 hlt, ao5.whole Tryz.sh75 hlt, Tryz.neqW htlt hylt]; done)); simp [stepV, cls, s.e19, e21, hw.whole Tryz.sh75, ArrB.idx Tryz.underlying69 Tryz.sz75 hlt, ao5.whole Tryz.sh75 hlt, Tryz.neqW htlt hylt]) | (refine RSW.un rfl ?_ ?_ ?_; (focus (simp [wantedA, s.e19, e21, hw.whole Tryz.sh75, ArrB.idx Tryz.underlying69 Tryz.sz75 hlt, ao5.whole Tryz.sh75 hlt, Tryz.neqW htlt hylt]; done)); (focus (simp [cls]; done))))); refine RSW.nil ?_; try simp only [andThen, endBlock])
            (refine W.cond false ?_ ?_; (focus (simp [hne]; done)); simp only [Bool.false_eq_true, if_false])
            (refine W.skip ?_; try simp only [andThen, endBlock])
            ((try simp only [andThen, endBlock, if_true]); repeat (first | with_reducible refine W.seq ?_ | with_reducible refine W.block ?_ | (refine W.region (by rfl) ?_; (repeat (first | (refine OpsW.step rfl ?_; simp [opV, e62]; done) | (refine OpsW.step rfl ?_; simp [opV, e62]) | (refine OpsW.step ?_ ?_; (focus (simp [wantedA, e62]; done)); simp [opV, e62]) | (refine OpsW.un ?_ ?_; (focus (simp [wantedA, e62]; done))))); (refine OpsW.nil ?_; try simp only [andThen, endBlock]))))
            refine ⟨_, ?_, i + 1, X2, Y2, more2, rfl, by omega, s.to (by simp) (by simp [s.e20]) (s.ext.trans hx5) ai5 ao5, by simp [e61], by simp [wrap_succ hlt (by rw [Most_eq]; omega)], rn, fun hm j hj => ?_⟩
            · omega
            · by_cases hji : j = i
              · subst hji
                refine ⟨by rw [← rn.no hm j hlt]; exact hne.symm, fun s' hs' he => ?_⟩
                have := (hp hm).2 (s' : Int) ((hok.mem j hlt _).2 ⟨s', hs', rfl, he⟩)
                simpa using this
              · exact (hp hm).1 j (by omega)
          · (refine W.drawnS mixedP self0_ok [(0, 0), (1, 0), (2, 0), (3, 0), (4, 0), (5, 0)] (by rfl) (by kernel_rfl) ?_; (repeat (first | (refine RSW.step rfl rfl ?_; simp [stepV, cls, s.e19, e21, hw.whole Tryz.sh75, ArrB.idx Tryz.underlying69 Tryz.sz75 hlt, ao5.whole Tryz.sh75 hlt, Tryz.neqW htlt hylt]) | (refine RSW.step rfl ?_ ?_; (focus (simp [wantedA, s.e19, e21, hw.whole Tryz.sh75, ArrB.idx Tryz.underlying69 Tryz.sz75 hlt, ao5.whole Tryz.sh75 hlt, Tryz.neqW htlt hylt]; done)); simp [stepV, cls, s.e19, e21, hw.whole Tryz.sh75, ArrB.idx Tryz.underlying69 Tryz.sz75 hlt, ao5.whole Tryz.sh75 hlt, Tryz.neqW htlt hylt]) | (refine RSW.un rfl ?_ ?_ ?_; (focus (simp [wantedA, s.e19, e21, hw.whole Tryz.sh75, ArrB.idx Tryz.underlying69 Tryz.sz75 hlt, ao5.whole Tryz.sh75 hlt, Tryz.neqW htlt hylt]; done)); (focus (simp [cls]; done))))); refine RSW.nil ?_; try simp only [andThen, endBlock])
            (refine W.cond true ?_ ?_; (focus (simp [hne]; done)); simp only [if_true])
            have hst5 := ao5.store (P := Tryz.prog) (M := thr (X2 i) (GK c.gs i) (GK c.ks i)) Tryz.sz75 hlt
            ((try simp only [andThen, endBlock, if_true]); repeat (first | with_reducible refine W.seq ?_ | with_reducible refine W.block ?_ | (refine W.region (by rfl) ?_; (repeat (first | (refine OpsW.step rfl ?_; simp [opV, s.e19, e21, hw.whole Tryz.sh75, ArrB.idx Tryz.underlying69 Tryz.sz75 hlt, hst5]; done) | (refine OpsW.step rfl ?_; simp [opV, s.e19, e21, hw.whole Tryz.sh75, ArrB.idx Tryz.underlying69 Tryz.sz75 hlt, hst5]) | (refine OpsW.step ?_ ?_; (focus (simp [wantedA, s.e19, e21, hw.whole Tryz.sh75, ArrB.idx Tryz.underlying69 Tryz.sz75 hlt, hst5]; done)); simp [opV, s.e19, e21, hw.whole Tryz.sh75, ArrB.idx Tryz.underlying69 Tryz.sz75 hlt, hst5]) | (refine OpsW.un ?_ ?_; (focus (simp [wantedA, s.e19, e21, hw.whole Tryz.sh75, ArrB.idx Tryz.underlying69 Tryz.sz75 hlt, hst5]; done))))); (refine OpsW.nil ?_; try simp only [andThen, endBlock]))))
            ((try simp only [andThen, endBlock, if_true]); repeat (first | with_reducible refine W.seq ?_ | with_reducible refine W.block ?_ | (refine W.region (by rfl) ?_; (repeat (first | (refine OpsW.step rfl ?_; simp [opV, e62]; done) | (refine OpsW.step rfl ?_; simp [opV, e62]) | (refine OpsW.step ?_ ?_; (focus (simp [wantedA, e62]; done)); simp [opV, e62]) | (refine OpsW.un ?_ ?_; (focus (simp [wantedA, e62]; done))))); (refine OpsW.nil ?_; try simp only [andThen, endBlock]))))
            exact ⟨_, by omega, i + 1, X2, updF Y2 i (thr (X2 i) (GK c.gs i) (GK c.ks i)), true, rfl, by omega, s.to (by simp) (by simp) ((s.ext.trans hx5).put hok.hbo _) (ai5.other hok.ne _) (ArrB.put _ _ _ ao5.lt), by simp [e61], by simp [wrap_succ hlt (by rw [Most_eq]; omega)], rn.pass hok.glt hlt hne, fun hm => (nomatch hm)⟩
    · rintro x e A2 ⟨rfl, X1, Y1, more1, s, rn, hp⟩
      simp only [andThen, endBlock, if_true]
      exact ⟨_, rn.left good.ylt, X1, Y1, more1, s, rn.good, rfl, fun hm => by subst hm; exact rn.done (hp rfl)⟩
  · clear e1 e12 e13 e15 e17
    rintro x e A6 ⟨rfl, X, Y, st, hleast, hgd⟩
    have hcn : c.n ≤ 1024 := by have := hok.le; omega
    have sub : ∀ A', Ext c.B A' → Ext A A' := fun A' hx' => hx04.trans (by subst hc; exact hx')
    have hgood : ValidF nx ∧ SetsL gs nx.length ∧ SetsL ks nx.length := ⟨hval, hsg, hsk⟩
    have hls : Least nx.length (Edge fwd nx) (GK gs) (GK ks) X Y := by subst hc; exact hleast
    have hxy : (∀ i, i < c.n → X i < 2 ^ 1024) ∧ ∀ i, i < c.n → Y i < 2 ^ 1024 := ⟨hgd.xlt, hgd.ylt⟩
    have hcnx : c.n = nx.length := by subst hc; rfl
    have hfw : c.fwd = fwd := by subst hc; rfl
    ((try simp only [andThen, endBlock, if_true]); repeat (first | with_reducible refine W.seq ?_ | with_reducible refine W.block ?_ | (refine W.region (by rfl) ?_; (repeat (first | (refine OpsW.step rfl ?_; simp [opV, st.e1]; done) | (refine OpsW.step rfl ?_; simp [opV, st.e1]) | (refine OpsW.step ?_ ?_; (focus (simp [wantedA, st.e1]; done)); simp [opV, st.e1]) | (refine OpsW.un ?_ ?_; (focus (simp [wantedA, st.e1]; done))))); (refine OpsW.nil ?_; try simp only [andThen, endBlock]))))
    cases fwd with
    | true =>
      (refine W.cond true ?_ ?_; (focus (simp [hfw]; done)); simp only [if_true])
      refine W.seq ?_
      (refine W.region (by rfl) ?_; (repeat (first | (refine OpsW.step rfl ?_; simp [opV, st.e18]; done) | (refine OpsW.step rfl ?_; simp [opV, st.e18]) | (refine OpsW.step ?_ ?_; (focus (simp [wantedA, st.e18]; done)); simp [opV, st.e18]) | (refine OpsW.un ?_ ?_; (focus (simp [wantedA, st.e18]; done))))))
      (refine FnW.mono (plists_spec A6 c.bi c.n X st.ai hcn hxy.1) ?_; rintro u1 A7 ⟨⟨ws1, g1⟩, hx1⟩)
      (repeat (first | (refine OpsW.step rfl ?_; simp [opV, st.e19]; done) | (refine OpsW.step rfl ?_; simp [opV, st.e19]) | (refine OpsW.step ?_ ?_; (focus (simp [wantedA, st.e19]; done)); simp [opV, st.e19]) | (refine OpsW.un ?_ ?_; (focus (simp [wantedA, st.e19]; done)))))
      (refine FnW.mono (plists_spec A7 c.bo c.n Y (st.ao.ext hx1) hcn hxy.2) ?_; rintro u2 A8 ⟨⟨ws2, g2⟩, hx2⟩)
      (repeat (first | (refine OpsW.step rfl ?_; simp [opV]; done) | (refine OpsW.step rfl ?_; simp [opV]) | (refine OpsW.step ?_ ?_; (focus (simp [wantedA]; done)); simp [opV]) | (refine OpsW.un ?_ ?_; (focus (simp [wantedA]; done)))))
      (refine OpsW.nil ?_; try simp only [andThen, endBlock])
      (refine W.ret ?_; try simp only [andThen, endBlock])
      refine ⟨.inr rfl, [u1, u2, IV 0], by simp [Tryz.f7, resultsA, resultA], ?_⟩
      rw [hcnx] at g1 g2
      exact ⟨.inr ⟨hgood, _, _, X, Y, ws1, ws2, rfl, g1.ext hx2, g2, hls⟩, sub _ (st.ext.trans (hx1.trans hx2))⟩
    | false =>
      (refine W.cond false ?_ ?_; (focus (simp [hfw]; done)); simp only [Bool.false_eq_true, if_false])
      (refine W.skip ?_; try simp only [andThen, endBlock])
      refine W.seq ?_
      (refine W.region (by rfl) ?_; (repeat (first | (refine OpsW.step rfl ?_; simp [opV, st.e19]; done) | (refine OpsW.step rfl ?_; simp [opV, st.e19]) | (refine OpsW.step ?_ ?_; (focus (simp [wantedA, st.e19]; done)); simp [opV, st.e19]) | (refine OpsW.un ?_ ?_; (focus (simp [wantedA, st.e19]; done))))))
      (refine FnW.mono (plists_spec A6 c.bo c.n Y st.ao hcn hxy.2) ?_; rintro u1 A7 ⟨⟨ws1, g1⟩, hx1⟩)
      (repeat (first | (refine OpsW.step rfl ?_; simp [opV, st.e18]; done) | (refine OpsW.step rfl ?_; simp [opV, st.e18]) | (refine OpsW.step ?_ ?_; (focus (simp [wantedA, st.e18]; done)); simp [opV, st.e18]) | (refine OpsW.un ?_ ?_; (focus (simp [wantedA, st.e18]; done)))))
      (refine FnW.mono (plists_spec A7 c.bi c.n X (st.ai.ext hx1) hcn hxy.1) ?_; rintro u2 A8 ⟨⟨ws2, g2⟩, hx2⟩)
      (repeat (first | (refine OpsW.step rfl ?_; simp [opV]; done) | (refine OpsW.step rfl ?_; simp [opV]) | (refine OpsW.step ?_ ?_; (focus (simp [wantedA]; done)); simp [opV]) | (refine OpsW.un ?_ ?_; (focus (simp [wantedA]; done)))))
      (refine OpsW.nil ?_; try simp only [andThen, endBlock])
      (refine W.ret ?_; try simp only [andThen, endBlock])
      refine ⟨.inr rfl, [u1, u2, IV 0], by simp [Tryz.f7, resultsA, resultA], ?_⟩
      rw [hcnx] at g1 g2
      exact ⟨.inr ⟨hgood, _, _, Y, X, ws1, ws2, rfl, g1.ext hx2, g2, hls⟩, sub _ (st.ext.trans (hx1.trans hx2))⟩
end Go.Proofs
