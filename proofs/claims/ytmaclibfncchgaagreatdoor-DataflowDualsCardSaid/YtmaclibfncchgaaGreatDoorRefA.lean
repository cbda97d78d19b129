import Derived.Test.YtmaclibfncchgaaGreatDoorFacts
set_option linter.all false
/-! Lists of ints of the reference: Has, With, union. -/
namespace Go.Proofs
open Go Go.Ab

variable [LoopTab]
def HasInv (A0 : AH) (v : AV) (l : List Int) (n : Int) (k : Nat) (e : En) (A : AH) : Prop := ∃ i : Nat, k = l.length - i ∧ i ≤ l.length ∧ e.get 0 = v ∧ e.get 1 = IV n ∧ e.get 5 = IV i ∧ A = A0 ∧ ∀ x ∈ l.take i, x ≠ n
theorem has_spec (A : AH) (v : AV) (l : List Int) (n : Int) (h : IntSl A v l) : FnW Tryz.prog 40 [v, IV n] A fun u A' => u = .bool (decide (n ∈ l)) ∧ A = A' := by
  refine FnW.body Tryz.func40 (by decide) rfl Tryz.ntmps40 ?_
  generalize hE : bindArgs _ 0 _ = E
  have a0 := (congrArg (fun e => En.get e 0) hE).symm
  simp [bindArgs, kept, En.get_bind] at a0
  have a1 := (congrArg (fun e => En.get e 1) hE).symm
  simp [bindArgs, kept, En.get_bind] at a1
  clear hE
  ((try simp only [andThen, endBlock, if_true]); repeat (first | with_reducible refine W.seq ?_ | with_reducible refine W.block ?_ | (refine W.region (by rfl) ?_; (repeat (first | (refine OpsW.step rfl ?_; simp [opV]; done) | (refine OpsW.step rfl ?_; simp [opV]) | (refine OpsW.step ?_ ?_; (focus (simp [wantedA]; done)); simp [opV]) | (refine OpsW.un ?_ ?_; (focus (simp [wantedA]; done))))); (refine OpsW.nil ?_; try simp only [andThen, endBlock]))))
  refine W.loop ?_
  refine LW.induct (HasInv A v l n) ?_ _ _ A ⟨0, rfl, Nat.zero_le _, by simp [a0], by simp [a1], by simp, rfl, by simp⟩
  rintro k e A1 ⟨i, rfl, hi, e0, e1, e5, rfl, hno⟩
  ((try simp only [andThen, endBlock, if_true]); repeat (first | with_reducible refine W.seq ?_ | with_reducible refine W.block ?_ | (refine W.region (by rfl) ?_; (repeat (first | (refine OpsW.step rfl ?_; simp [opV, e0, e5, IntSl.len h (P := Tryz.prog) Tryz.underlying36]; done) | (refine OpsW.step rfl ?_; simp [opV, e0, e5, IntSl.len h (P := Tryz.prog) Tryz.underlying36]) | (refine OpsW.step ?_ ?_; (focus (simp [wantedA, e0, e5, IntSl.len h (P := Tryz.prog) Tryz.underlying36]; done)); simp [opV, e0, e5, IntSl.len h (P := Tryz.prog) Tryz.underlying36]) | (refine OpsW.un ?_ ?_; (focus (simp [wantedA, e0, e5, IntSl.len h (P := Tryz.prog) Tryz.underlying36]; done))))); (refine OpsW.nil ?_; try simp only [andThen, endBlock]))))
  by_cases hlt : i < l.length
  · (refine W.cond true ?_ ?_; (focus (simp [hlt]; done)); simp only [if_true])
    (refine W.skip ?_; try simp only [andThen, endBlock])
    ((try simp only [andThen, endBlock, if_true]); repeat (first | with_reducible refine W.seq ?_ | with_reducible refine W.block ?_ | (refine W.region (by rfl) ?_; (repeat (first | (refine OpsW.step rfl ?_; simp [opV, e0, e1, e5, IntSl.idx h Tryz.underlying36 Tryz.sz3 hlt, IntSl.load h Tryz.sh3 hlt]; done) | (refine OpsW.step rfl ?_; simp [opV, e0, e1, e5, IntSl.idx h Tryz.underlying36 Tryz.sz3 hlt, IntSl.load h Tryz.sh3 hlt]) | (refine OpsW.step ?_ ?_; (focus (simp [wantedA, e0, e1, e5, IntSl.idx h Tryz.underlying36 Tryz.sz3 hlt, IntSl.load h Tryz.sh3 hlt]; done)); simp [opV, e0, e1, e5, IntSl.idx h Tryz.underlying36 Tryz.sz3 hlt, IntSl.load h Tryz.sh3 hlt]) | (refine OpsW.un ?_ ?_; (focus (simp [wantedA, e0, e1, e5, IntSl.idx h Tryz.underlying36 Tryz.sz3 hlt, IntSl.load h Tryz.sh3 hlt]; done))))); (refine OpsW.nil ?_; try simp only [andThen, endBlock]))))
    by_cases hq : ix l i = n
    · (refine W.cond true ?_ ?_; (focus (simp [hq]; done)); simp only [if_true])
      ((try simp only [andThen, endBlock, if_true]); repeat (first | with_reducible refine W.seq ?_ | with_reducible refine W.block ?_ | (refine W.region (by rfl) ?_; (repeat (first | (refine OpsW.step rfl ?_; simp [opV]; done) | (refine OpsW.step rfl ?_; simp [opV]) | (refine OpsW.step ?_ ?_; (focus (simp [wantedA]; done)); simp [opV]) | (refine OpsW.un ?_ ?_; (focus (simp [wantedA]; done))))); (refine OpsW.nil ?_; try simp only [andThen, endBlock]))))
      (refine W.ret ?_; try simp only [andThen, endBlock])
      refine ⟨.inr rfl, [.bool true], by simp [Tryz.f40, resultsA, resultA], ?_⟩
      refine ⟨?_, rfl⟩
      have hm : n ∈ l := by rw [← hq]; exact ix_mem hlt
      simp [hm]
    · (refine W.cond false ?_ ?_; (focus (simp [hq]; done)); simp only [Bool.false_eq_true, if_false])
      (refine W.skip ?_; try simp only [andThen, endBlock])
      ((try simp only [andThen, endBlock, if_true]); repeat (first | with_reducible refine W.seq ?_ | with_reducible refine W.block ?_ | (refine W.region (by rfl) ?_; (repeat (first | (refine OpsW.step rfl ?_; simp [opV, e5]; done) | (refine OpsW.step rfl ?_; simp [opV, e5]) | (refine OpsW.step ?_ ?_; (focus (simp [wantedA, e5]; done)); simp [opV, e5]) | (refine OpsW.un ?_ ?_; (focus (simp [wantedA, e5]; done))))); (refine OpsW.nil ?_; try simp only [andThen, endBlock]))))
      refine ⟨l.length - (i + 1), by omega, i + 1, rfl, by omega, by simp [e0], by simp [e1], by simp [wrap_succ hlt h.2], rfl, take_succ_mem hlt hno hq⟩
  · (refine W.cond false ?_ ?_; (focus (simp [hlt]; done)); simp only [Bool.false_eq_true, if_false])
    (refine W.exit ?_; try simp only [andThen, endBlock, if_true])
    ((try simp only [andThen, endBlock, if_true]); repeat (first | with_reducible refine W.seq ?_ | with_reducible refine W.block ?_ | (refine W.region (by rfl) ?_; (repeat (first | (refine OpsW.step rfl ?_; simp [opV]; done) | (refine OpsW.step rfl ?_; simp [opV]) | (refine OpsW.step ?_ ?_; (focus (simp [wantedA]; done)); simp [opV]) | (refine OpsW.un ?_ ?_; (focus (simp [wantedA]; done))))); (refine OpsW.nil ?_; try simp only [andThen, endBlock]))))
    (refine W.ret ?_; try simp only [andThen, endBlock])
    refine ⟨.inr rfl, [.bool false], by simp [Tryz.f40, resultsA, resultA], ?_⟩
    refine ⟨?_, rfl⟩
    have hm : n ∉ l := fun hm => by
      rw [List.take_of_length_le (by omega)] at hno
      exact hno n hm rfl
    simp [hm]
end Go.Proofs
namespace Go.Proofs
open Go Go.Ab
variable [LoopTab]
def WithInv (A0 : AH) (v : AV) (l : List Int) (n : Int) (k : Nat) (e : En) (A : AH) : Prop := ∃ i : Nat, k = l.length - i ∧ i ≤ l.length ∧ e.get 0 = v ∧ e.get 1 = IV n ∧ e.get 6 = IV i ∧ OwnI A0 A (e.get 5) (l.take i) ∧ Ext A0 A ∧ ∀ x ∈ l.take i, x < n
theorem own_zero (A : AH) : OwnI A (A.push (.cells [])) (.slice A.next 0 0 0 true 1) [] := .inr ⟨A.next, 0, true, rfl, by rw [AH.get_push, if_pos rfl]; rfl, by simp, Nat.le_refl _, Nat.lt_succ_self _⟩
def WithInv1 (A0 : AH) (v : AV) (l : List Int) (n : Int) (e : En) (A : AH) : Prop := ∃ i : Nat, i ≤ l.length ∧ e.get 0 = v ∧ e.get 1 = IV n ∧ OwnI A0 A (e.get 5) (l.take i) ∧ Ext A0 A ∧ (∀ x ∈ l.take i, x < n) ∧ (i < l.length → n ≤ ix l i)

theorem with_spec (A : AH) (v : AV) (l : List Int) (n : Int) (h : IntSl A v l) (hl : l.length ≤ 100000) : FnW Tryz.prog 41 [v, IV n] A fun u A' => (∃ r, Ins l n r ∧ IntSl A' u r) ∧ Ext A A' ∧ (u = v ∨ A.next ≤ pb u) := by
  refine FnW.body Tryz.func41 (by decide) rfl Tryz.ntmps41 ?_
  generalize hE : bindArgs _ 0 _ = E
  have a0 := (congrArg (fun e => En.get e 0) hE).symm
  simp [bindArgs, kept, En.get_bind] at a0
  have a1 := (congrArg (fun e => En.get e 1) hE).symm
  simp [bindArgs, kept, En.get_bind] at a1
  clear hE
  ((try simp only [andThen, endBlock, if_true]); repeat (first | with_reducible refine W.seq ?_ | with_reducible refine W.block ?_ | (refine W.region (by rfl) ?_; (repeat (first | (refine OpsW.step rfl ?_; simp [opV]; done) | (refine OpsW.step rfl ?_; simp [opV]) | (refine OpsW.step ?_ ?_; (focus (simp [wantedA]; done)); simp [opV]) | (refine OpsW.un ?_ ?_; (focus (simp [wantedA]; done))))); (refine OpsW.nil ?_; try simp only [andThen, endBlock]))))
  (refine W.region (by rfl) ?_; (repeat (first | (refine OpsW.step rfl ?_; simp [opV, a0, a1]; done) | (refine OpsW.step rfl ?_; simp [opV, a0, a1]) | (refine OpsW.step ?_ ?_; (focus (simp [wantedA, a0, a1]; done)); simp [opV, a0, a1]) | (refine OpsW.un ?_ ?_; (focus (simp [wantedA, a0, a1]; done))))))
  (refine FnW.mono (has_spec A v l n h) ?_; rintro _ A1 ⟨rfl, e⟩)
  subst e
  (repeat (first | (refine OpsW.step rfl ?_; simp [opV]; done) | (refine OpsW.step rfl ?_; simp [opV]) | (refine OpsW.step ?_ ?_; (focus (simp [wantedA]; done)); simp [opV]) | (refine OpsW.un ?_ ?_; (focus (simp [wantedA]; done)))))
  (refine OpsW.nil ?_; try simp only [andThen, endBlock])
  by_cases hm : n ∈ l
  · (refine W.cond true ?_ ?_; (focus (simp [hm]; done)); simp only [if_true])
    ((try simp only [andThen, endBlock, if_true]); repeat (first | with_reducible refine W.seq ?_ | with_reducible refine W.block ?_ | (refine W.region (by rfl) ?_; (repeat (first | (refine OpsW.step rfl ?_; simp [opV, a0]; done) | (refine OpsW.step rfl ?_; simp [opV, a0]) | (refine OpsW.step ?_ ?_; (focus (simp [wantedA, a0]; done)); simp [opV, a0]) | (refine OpsW.un ?_ ?_; (focus (simp [wantedA, a0]; done))))); (refine OpsW.nil ?_; try simp only [andThen, endBlock]))))
    (refine W.ret ?_; try simp only [andThen, endBlock])
    refine ⟨.inr rfl, [v], by simp [Tryz.f41, resultsA, resultA], ?_⟩
    refine ⟨⟨l, .inl ⟨hm, rfl⟩, h⟩, Ext.refl _, .inl rfl⟩
  · (refine W.cond false ?_ ?_; (focus (simp [hm]; done)); simp only [Bool.false_eq_true, if_false])
    (refine W.skip ?_; try simp only [andThen, endBlock])
    ((try simp only [andThen, endBlock, if_true]); repeat (first | with_reducible refine W.seq ?_ | with_reducible refine W.block ?_ | (refine W.region (by rfl) ?_; (repeat (first | (refine OpsW.step rfl ?_; simp [opV, allocL_slice0]; done) | (refine OpsW.step rfl ?_; simp [opV, allocL_slice0]) | (refine OpsW.step ?_ ?_; (focus (simp [wantedA, allocL_slice0]; done)); simp [opV, allocL_slice0]) | (refine OpsW.un ?_ ?_; (focus (simp [wantedA, allocL_slice0]; done))))); (refine OpsW.nil ?_; try simp only [andThen, endBlock]))))
    refine W.mono (Q := fun x e A' => x = .exit 0 ∧ WithInv1 A v l n e A') ?_ ?_
    · refine W.loop ?_
      refine LW.induct (WithInv A v l n) ?_ _ _ _ ⟨0, rfl, Nat.zero_le _, by simp [a0], by simp [a1], by simp, by simpa using own_zero A, (Ext.refl A).push _, by simp⟩
      rintro k e A1 ⟨i, rfl, hi, e0, e1, e6, hown, hext, hlow⟩
      have h1 := h.ext hext
      by_cases hlt : i < l.length
      · ((try simp only [andThen, endBlock, if_true]); repeat (first | with_reducible refine W.seq ?_ | with_reducible refine W.block ?_ | (refine W.region (by rfl) ?_; (repeat (first | (refine OpsW.step rfl ?_; simp [opV, e0, e1, e6, hlt, IntSl.len h1 (P := Tryz.prog) Tryz.underlying36, IntSl.idx h1 Tryz.underlying36 Tryz.sz3 hlt, IntSl.load h1 Tryz.sh3 hlt]; done) | (refine OpsW.step rfl ?_; simp [opV, e0, e1, e6, hlt, IntSl.len h1 (P := Tryz.prog) Tryz.underlying36, IntSl.idx h1 Tryz.underlying36 Tryz.sz3 hlt, IntSl.load h1 Tryz.sh3 hlt]) | (refine OpsW.step ?_ ?_; (focus (simp [wantedA, e0, e1, e6, hlt, IntSl.len h1 (P := Tryz.prog) Tryz.underlying36, IntSl.idx h1 Tryz.underlying36 Tryz.sz3 hlt, IntSl.load h1 Tryz.sh3 hlt]; done)); simp [opV, e0, e1, e6, hlt, IntSl.len h1 (P := Tryz.prog) Tryz.underlying36, IntSl.idx h1 Tryz.underlying36 Tryz.sz3 hlt, IntSl.load h1 Tryz.sh3 hlt]) | (refine OpsW.un ?_ ?_; (focus (simp [wantedA, e0, e1, e6, hlt, IntSl.len h1 (P := Tryz.prog) Tryz.underlying36, IntSl.idx h1 Tryz.underlying36 Tryz.sz3 hlt, IntSl.load h1 Tryz.sh3 hlt]; done))))); (refine OpsW.nil ?_; try simp only [andThen, endBlock]))))
        by_cases hq : ix l i < n
        · (refine W.cond true ?_ ?_; (focus (simp [hq]; done)); simp only [if_true])
          (refine W.skip ?_; try simp only [andThen, endBlock])
          obtain ⟨v', A2, g1, g2, g3⟩ := append_int (ix l i) hown hext (by simp; omega)
          ((try simp only [andThen, endBlock, if_true]); repeat (first | with_reducible refine W.seq ?_ | with_reducible refine W.block ?_ | (refine W.region (by rfl) ?_; (repeat (first | (refine OpsW.step rfl ?_; simp [opV, e0, e6, IntSl.idx h1 Tryz.underlying36 Tryz.sz3 hlt, IntSl.load h1 Tryz.sh3 hlt, allocL_slice1, opA_append, g1]; done) | (refine OpsW.step rfl ?_; simp [opV, e0, e6, IntSl.idx h1 Tryz.underlying36 Tryz.sz3 hlt, IntSl.load h1 Tryz.sh3 hlt, allocL_slice1, opA_append, g1]) | (refine OpsW.step ?_ ?_; (focus (simp [wantedA, e0, e6, IntSl.idx h1 Tryz.underlying36 Tryz.sz3 hlt, IntSl.load h1 Tryz.sh3 hlt, allocL_slice1, opA_append, g1]; done)); simp [opV, e0, e6, IntSl.idx h1 Tryz.underlying36 Tryz.sz3 hlt, IntSl.load h1 Tryz.sh3 hlt, allocL_slice1, opA_append, g1]) | (refine OpsW.un ?_ ?_; (focus (simp [wantedA, e0, e6, IntSl.idx h1 Tryz.underlying36 Tryz.sz3 hlt, IntSl.load h1 Tryz.sh3 hlt, allocL_slice1, opA_append, g1]; done))))); (refine OpsW.nil ?_; try simp only [andThen, endBlock]))))
          refine ⟨l.length - (i + 1), by omega, i + 1, rfl, by omega, by simp [e0], by simp [e1], by simp [wrap_succ hlt h.2], ?_, g3, take_succ_mem hlt hlow hq⟩
          rw [take_ix hlt]; simpa using g2
        · (refine W.cond false ?_ ?_; (focus (simp [hq]; done)); simp only [Bool.false_eq_true, if_false])
          (refine W.exit ?_; try simp only [andThen, endBlock, if_true])
          exact ⟨by simp, i, hi, by simp [e0], by simp [e1], by simpa using hown, hext, hlow, fun _ => by omega⟩
      · ((try simp only [andThen, endBlock, if_true]); repeat (first | with_reducible refine W.seq ?_ | with_reducible refine W.block ?_ | (refine W.region (by rfl) ?_; (repeat (first | (refine OpsW.step rfl ?_; simp [opV, e0, e1, e6, hlt, IntSl.len h1 (P := Tryz.prog) Tryz.underlying36]; done) | (refine OpsW.step rfl ?_; simp [opV, e0, e1, e6, hlt, IntSl.len h1 (P := Tryz.prog) Tryz.underlying36]) | (refine OpsW.step ?_ ?_; (focus (simp [wantedA, e0, e1, e6, hlt, IntSl.len h1 (P := Tryz.prog) Tryz.underlying36]; done)); simp [opV, e0, e1, e6, hlt, IntSl.len h1 (P := Tryz.prog) Tryz.underlying36]) | (refine OpsW.un ?_ ?_; (focus (simp [wantedA, e0, e1, e6, hlt, IntSl.len h1 (P := Tryz.prog) Tryz.underlying36]; done))))); (refine OpsW.nil ?_; try simp only [andThen, endBlock]))))
        (refine W.cond false ?_ ?_; (focus (simp [hlt]; done)); simp only [Bool.false_eq_true, if_false])
        (refine W.exit ?_; try simp only [andThen, endBlock, if_true])
        exact ⟨by simp, i, hi, by simp [e0], by simp [e1], by simpa using hown, hext, hlow, fun hh => absurd hh hlt⟩
    · rintro x e A1 ⟨rfl, i, hi, e0, e1, hown, hext, hlow, hup⟩
      have hL : (l.take i).length = i := by simp; omega
      generalize hLL : l.take i = L at *
      have h1 := h.ext hext
      obtain ⟨v2, A2, g1, g2, g3⟩ := append_int n hown hext (by omega)
      have h2 := h.ext g3
      obtain ⟨r2, k1, k2⟩ := SlW.rest (P := Tryz.prog) (kd := .i64) h2.1 Tryz.underlying36 Tryz.sz3 hi
      obtain ⟨v3, A3, p1, p2, p3⟩ := append_ints (r := l.drop i) g2 g3 (by simpa using k2) (by simp; omega)
      ((try simp only [andThen, endBlock, if_true]); repeat (first | with_reducible refine W.seq ?_ | with_reducible refine W.block ?_ | (refine W.region (by rfl) ?_; (repeat (first | (refine OpsW.step rfl ?_; simp [opV, IntSl.len (OwnI.sl hown (by rw [Most_eq]; omega)) (P := Tryz.prog) Tryz.underlying36, hL, e1, e0, allocL_slice1, opA_append, g1, opA_rest _ _ _ Tryz.underlying36, k1, p1]; done) | (refine OpsW.step rfl ?_; simp [opV, IntSl.len (OwnI.sl hown (by rw [Most_eq]; omega)) (P := Tryz.prog) Tryz.underlying36, hL, e1, e0, allocL_slice1, opA_append, g1, opA_rest _ _ _ Tryz.underlying36, k1, p1]) | (refine OpsW.step ?_ ?_; (focus (simp [wantedA, IntSl.len (OwnI.sl hown (by rw [Most_eq]; omega)) (P := Tryz.prog) Tryz.underlying36, hL, e1, e0, allocL_slice1, opA_append, g1, opA_rest _ _ _ Tryz.underlying36, k1, p1]; done)); simp [opV, IntSl.len (OwnI.sl hown (by rw [Most_eq]; omega)) (P := Tryz.prog) Tryz.underlying36, hL, e1, e0, allocL_slice1, opA_append, g1, opA_rest _ _ _ Tryz.underlying36, k1, p1]) | (refine OpsW.un ?_ ?_; (focus (simp [wantedA, IntSl.len (OwnI.sl hown (by rw [Most_eq]; omega)) (P := Tryz.prog) Tryz.underlying36, hL, e1, e0, allocL_slice1, opA_append, g1, opA_rest _ _ _ Tryz.underlying36, k1, p1]; done))))); (refine OpsW.nil ?_; try simp only [andThen, endBlock]))))
      (refine W.ret ?_; try simp only [andThen, endBlock])
      refine ⟨.inr rfl, [v3], by simp [Tryz.f41, resultsA, resultA], ?_⟩
      refine ⟨⟨_, .inr ⟨hm, i, hi, by rw [hLL]; exact hlow, hup, rfl⟩, ?_⟩, p3, .inr (OwnI.fresh p2 (by simp))⟩
      have := OwnI.sl p2 (by simp; rw [Most_eq]; omega)
      rw [hLL]
      simpa using this
end Go.Proofs

/-! Sets of the reference. -/
namespace Go.Proofs
open Go Go.Ab
variable [LoopTab]
theorem with_set (A : AH) (v : AV) (N n : Nat) (h : SetV A v N) (hn : n < 1024) : FnW Tryz.prog 41 [v, IV n] A fun u A' => SetV A' u (N ||| 2 ^ n) ∧ Ext A A' ∧ (u = v ∨ A.next ≤ pb u) := by
  refine FnW.mono (with_spec A v (lst N) n h.1 (Nat.le_trans (lst_length N) (by omega))) ?_
  rintro u A' ⟨⟨r, hr, hs⟩, hx, hn'⟩
  have := ins_lst hn hr
  subst this
  exact ⟨⟨hs, or_lt h.2 (pow_lt hn)⟩, hx, hn'⟩
theorem bitsOf_append (l : List Int) (x : Int) : bitsOf (l ++ [x]) = bitsOf l ||| 2 ^ x.toNat := by simp [bitsOf]
theorem bitsOf_lst {N : Nat} (h : N < 2 ^ 1024) : bitsOf (lst N) = N := lst_inj (bitsOf_lt (IsS.lst N)) h (lst_bitsOf (IsS.lst N))
theorem ix_lst {N i : Nat} (h : i < (lst N).length) : ∃ k : Nat, k < 1024 ∧ N.testBit k = true ∧ ix (lst N) i = (k : Int) := mem_lst.1 (ix_mem h)

def UnionInv (A0 : AH) (a b : AV) (N M : Nat) (k : Nat) (e : En) (A : AH) : Prop := ∃ i : Nat, k = (lst M).length - i ∧ i ≤ (lst M).length ∧ SetV A (e.get 0) (N ||| bitsOf ((lst M).take i)) ∧ e.get 1 = b ∧ e.get 5 = IV i ∧ Ext A0 A ∧ (e.get 0 = a ∨ A0.next ≤ pb (e.get 0))
theorem union_spec (A : AH) (a b : AV) (N M : Nat) (ha : SetV A a N) (hb : SetV A b M) : FnW Tryz.prog 33 [a, b] A fun u A' => SetV A' u (N ||| M) ∧ Ext A A' ∧ (u = a ∨ A.next ≤ pb u) := by
  refine FnW.body Tryz.func33 (by decide) rfl Tryz.ntmps33 ?_
  generalize hE : bindArgs _ 0 _ = E
  have a0 := (congrArg (fun e => En.get e 0) hE).symm
  simp [bindArgs, kept, En.get_bind] at a0
  have a1 := (congrArg (fun e => En.get e 1) hE).symm
  simp [bindArgs, kept, En.get_bind] at a1
  clear hE
  ((try simp only [andThen, endBlock, if_true]); repeat (first | with_reducible refine W.seq ?_ | with_reducible refine W.block ?_ | (refine W.region (by rfl) ?_; (repeat (first | (refine OpsW.step rfl ?_; simp [opV]; done) | (refine OpsW.step rfl ?_; simp [opV]) | (refine OpsW.step ?_ ?_; (focus (simp [wantedA]; done)); simp [opV]) | (refine OpsW.un ?_ ?_; (focus (simp [wantedA]; done))))); (refine OpsW.nil ?_; try simp only [andThen, endBlock]))))
  refine W.loop ?_
  refine LW.induct (UnionInv A a b N M) ?_ _ _ A ⟨0, rfl, Nat.zero_le _, by simpa [bitsOf, a0] using ha, by simp [a1], by simp, Ext.refl _, .inl (by simp [a0])⟩
  rintro k e A1 ⟨i, rfl, hi, hcur, e1, e5, hx, hfr⟩
  have hb1 := (hb.ext hx).1
  ((try simp only [andThen, endBlock, if_true]); repeat (first | with_reducible refine W.seq ?_ | with_reducible refine W.block ?_ | (refine W.region (by rfl) ?_; (repeat (first | (refine OpsW.step rfl ?_; simp [opV, e1, e5, IntSl.len hb1 (P := Tryz.prog) Tryz.underlying36]; done) | (refine OpsW.step rfl ?_; simp [opV, e1, e5, IntSl.len hb1 (P := Tryz.prog) Tryz.underlying36]) | (refine OpsW.step ?_ ?_; (focus (simp [wantedA, e1, e5, IntSl.len hb1 (P := Tryz.prog) Tryz.underlying36]; done)); simp [opV, e1, e5, IntSl.len hb1 (P := Tryz.prog) Tryz.underlying36]) | (refine OpsW.un ?_ ?_; (focus (simp [wantedA, e1, e5, IntSl.len hb1 (P := Tryz.prog) Tryz.underlying36]; done))))); (refine OpsW.nil ?_; try simp only [andThen, endBlock]))))
  by_cases hlt : i < (lst M).length
  · (refine W.cond true ?_ ?_; (focus (simp [hlt]; done)); simp only [if_true])
    (refine W.skip ?_; try simp only [andThen, endBlock])
    obtain ⟨q, hq1, hq2, hq3⟩ := ix_lst hlt
    ((try simp only [andThen, endBlock, if_true]); repeat (first | with_reducible refine W.seq ?_ | with_reducible refine W.block ?_ | (refine W.region (by rfl) ?_; (repeat (first | (refine OpsW.step rfl ?_; simp [opV]; done) | (refine OpsW.step rfl ?_; simp [opV]) | (refine OpsW.step ?_ ?_; (focus (simp [wantedA]; done)); simp [opV]) | (refine OpsW.un ?_ ?_; (focus (simp [wantedA]; done))))); (refine OpsW.nil ?_; try simp only [andThen, endBlock]))))
    (refine W.region (by rfl) ?_; (repeat (first | (refine OpsW.step rfl ?_; simp [opV, e1, e5, IntSl.idx hb1 Tryz.underlying36 Tryz.sz3 hlt, IntSl.load hb1 Tryz.sh3 hlt, hq3]; done) | (refine OpsW.step rfl ?_; simp [opV, e1, e5, IntSl.idx hb1 Tryz.underlying36 Tryz.sz3 hlt, IntSl.load hb1 Tryz.sh3 hlt, hq3]) | (refine OpsW.step ?_ ?_; (focus (simp [wantedA, e1, e5, IntSl.idx hb1 Tryz.underlying36 Tryz.sz3 hlt, IntSl.load hb1 Tryz.sh3 hlt, hq3]; done)); simp [opV, e1, e5, IntSl.idx hb1 Tryz.underlying36 Tryz.sz3 hlt, IntSl.load hb1 Tryz.sh3 hlt, hq3]) | (refine OpsW.un ?_ ?_; (focus (simp [wantedA, e1, e5, IntSl.idx hb1 Tryz.underlying36 Tryz.sz3 hlt, IntSl.load hb1 Tryz.sh3 hlt, hq3]; done))))))
    (refine FnW.mono (with_set A1 (e.get 0) _ q hcur hq1) ?_; rintro u A2 ⟨g1, g2, g3⟩)
    (repeat (first | (refine OpsW.step rfl ?_; simp [opV]; done) | (refine OpsW.step rfl ?_; simp [opV]) | (refine OpsW.step ?_ ?_; (focus (simp [wantedA]; done)); simp [opV]) | (refine OpsW.un ?_ ?_; (focus (simp [wantedA]; done)))))
    (refine OpsW.nil ?_; try simp only [andThen, endBlock])
    ((try simp only [andThen, endBlock, if_true]); repeat (first | with_reducible refine W.seq ?_ | with_reducible refine W.block ?_ | (refine W.region (by rfl) ?_; (repeat (first | (refine OpsW.step rfl ?_; simp [opV, e5]; done) | (refine OpsW.step rfl ?_; simp [opV, e5]) | (refine OpsW.step ?_ ?_; (focus (simp [wantedA, e5]; done)); simp [opV, e5]) | (refine OpsW.un ?_ ?_; (focus (simp [wantedA, e5]; done))))); (refine OpsW.nil ?_; try simp only [andThen, endBlock]))))
    refine ⟨_, ?_, i + 1, rfl, by omega, ?_, by simp [e1], by simp [wrap_succ hlt hb1.2], hx.trans g2, ?_⟩
    · omega
    · rw [take_ix hlt, bitsOf_append, hq3, Int.toNat_natCast, ← Nat.or_assoc]
      simpa using g1
    · simp
      rcases g3 with rfl | g3
      · exact hfr
      · exact .inr (Nat.le_trans hx.1 g3)
  · (refine W.cond false ?_ ?_; (focus (simp [hlt]; done)); simp only [Bool.false_eq_true, if_false])
    (refine W.exit ?_; try simp only [andThen, endBlock, if_true])
    ((try simp only [andThen, endBlock, if_true]); repeat (first | with_reducible refine W.seq ?_ | with_reducible refine W.block ?_ | (refine W.region (by rfl) ?_; (repeat (first | (refine OpsW.step rfl ?_; simp [opV]; done) | (refine OpsW.step rfl ?_; simp [opV]) | (refine OpsW.step ?_ ?_; (focus (simp [wantedA]; done)); simp [opV]) | (refine OpsW.un ?_ ?_; (focus (simp [wantedA]; done))))); (refine OpsW.nil ?_; try simp only [andThen, endBlock]))))
    (refine W.ret ?_; try simp only [andThen, endBlock])
    refine ⟨.inr rfl, [e.get 0], by simp [Tryz.f33, resultsA, resultA], ?_⟩
    rw [List.take_of_length_le (by omega), bitsOf_lst hb.2] at hcur
    exact ⟨hcur, hx, hfr⟩

def keep (l : List Int) (K : Nat) : Nat := bitsOf (l.filter fun x => !K.testBit x.toNat)
theorem keep_succ {l : List Int} {i K : Nat} (h : i < l.length) : keep (l.take (i + 1)) K = if K.testBit (ix l i).toNat then keep (l.take i) K else keep (l.take i) K ||| 2 ^ (ix l i).toNat := by
  rw [keep, take_ix h, List.filter_append]
  cases hq : K.testBit (ix l i).toNat with
  | true => simp [hq, keep]
  | false => simp only [List.filter_cons, hq, List.filter_nil]; simp [bitsOf_append, keep]
theorem keep_all {S G K : Nat} (h : S < 2 ^ 1024) : G ||| keep (lst S) K = thr S G K := by
  refine Nat.eq_of_testBit_eq fun i => ?_
  rw [testBit_thr, Nat.testBit_or, keep, testBit_bitsOf, List.any_filter]
  congr 1
  rw [Bool.eq_iff_iff, List.any_eq_true, Bool.and_eq_true]
  constructor
  · rintro ⟨x, hx, hy⟩
    obtain ⟨k, h1, h2, rfl⟩ := mem_lst.1 hx
    rw [Bool.and_eq_true] at hy
    have : k = i := by simpa using hy.2
    subst this
    exact ⟨h2, by simpa using hy.1⟩
  · rintro ⟨h1, h2⟩
    have hi : i < 1024 := by
      refine Classical.byContradiction fun hn => ?_
      rw [testBit_big h (by omega)] at h1; cases h1
    exact ⟨(i : Int), mem_lst_nat.2 ⟨hi, h1⟩, by simpa using h2⟩
def ThrInv (A0 : AH) (s g k : AV) (S G K : Nat) (m : Nat) (e : En) (A : AH) : Prop := ∃ i : Nat, m = (lst S).length - i ∧ i ≤ (lst S).length ∧ SetV A (e.get 7) (G ||| keep ((lst S).take i) K) ∧ e.get 0 = s ∧ e.get 2 = k ∧ e.get 8 = IV i ∧ Ext A0 A ∧ (e.get 7 = g ∨ A0.next ≤ pb (e.get 7))
theorem through_spec (A : AH) (s g k : AV) (S G K : Nat) (hs : SetV A s S) (hg : SetV A g G) (hk : SetV A k K) : FnW Tryz.prog 18 [s, g, k] A fun u A' => SetV A' u (thr S G K) ∧ Ext A A' ∧ (u = g ∨ A.next ≤ pb u) := by
  refine FnW.body Tryz.func18 (by decide) rfl Tryz.ntmps18 ?_
  generalize hE : bindArgs _ 0 _ = E
  have a0 := (congrArg (fun e => En.get e 0) hE).symm
  simp [bindArgs, kept, En.get_bind] at a0
  have a1 := (congrArg (fun e => En.get e 1) hE).symm
  simp [bindArgs, kept, En.get_bind] at a1
  have a2 := (congrArg (fun e => En.get e 2) hE).symm
  simp [bindArgs, kept, En.get_bind] at a2
  clear hE
  ((try simp only [andThen, endBlock, if_true]); repeat (first | with_reducible refine W.seq ?_ | with_reducible refine W.block ?_ | (refine W.region (by rfl) ?_; (repeat (first | (refine OpsW.step rfl ?_; simp [opV]; done) | (refine OpsW.step rfl ?_; simp [opV]) | (refine OpsW.step ?_ ?_; (focus (simp [wantedA]; done)); simp [opV]) | (refine OpsW.un ?_ ?_; (focus (simp [wantedA]; done))))); (refine OpsW.nil ?_; try simp only [andThen, endBlock]))))
  refine W.loop ?_
  refine LW.induct (ThrInv A s g k S G K) ?_ _ _ A ⟨0, rfl, Nat.zero_le _, by simpa [keep, bitsOf, a1] using hg, by simp [a0], by simp [a2], by simp, Ext.refl _, .inl (by simp [a1])⟩
  rintro m e A1 ⟨i, rfl, hi, hcur, e0, e2, e8, hx, hfr⟩
  have hs1 := (hs.ext hx).1
  have hk1 := (hk.ext hx).1
  ((try simp only [andThen, endBlock, if_true]); repeat (first | with_reducible refine W.seq ?_ | with_reducible refine W.block ?_ | (refine W.region (by rfl) ?_; (repeat (first | (refine OpsW.step rfl ?_; simp [opV, e0, e8, IntSl.len hs1 (P := Tryz.prog) Tryz.underlying36]; done) | (refine OpsW.step rfl ?_; simp [opV, e0, e8, IntSl.len hs1 (P := Tryz.prog) Tryz.underlying36]) | (refine OpsW.step ?_ ?_; (focus (simp [wantedA, e0, e8, IntSl.len hs1 (P := Tryz.prog) Tryz.underlying36]; done)); simp [opV, e0, e8, IntSl.len hs1 (P := Tryz.prog) Tryz.underlying36]) | (refine OpsW.un ?_ ?_; (focus (simp [wantedA, e0, e8, IntSl.len hs1 (P := Tryz.prog) Tryz.underlying36]; done))))); (refine OpsW.nil ?_; try simp only [andThen, endBlock]))))
  by_cases hlt : i < (lst S).length
  · (refine W.cond true ?_ ?_; (focus (simp [hlt]; done)); simp only [if_true])
    (refine W.skip ?_; try simp only [andThen, endBlock])
    obtain ⟨q, hq1, hq2, hq3⟩ := ix_lst hlt
    have hks := keep_succ (K := K) hlt
    rw [hq3, Int.toNat_natCast] at hks
    ((try simp only [andThen, endBlock, if_true]); repeat (first | with_reducible refine W.seq ?_ | with_reducible refine W.block ?_ | (refine W.region (by rfl) ?_; (repeat (first | (refine OpsW.step rfl ?_; simp [opV]; done) | (refine OpsW.step rfl ?_; simp [opV]) | (refine OpsW.step ?_ ?_; (focus (simp [wantedA]; done)); simp [opV]) | (refine OpsW.un ?_ ?_; (focus (simp [wantedA]; done))))); (refine OpsW.nil ?_; try simp only [andThen, endBlock]))))
    (refine W.region (by rfl) ?_; (repeat (first | (refine OpsW.step rfl ?_; simp [opV, e0, e2, e8, IntSl.idx hs1 Tryz.underlying36 Tryz.sz3 hlt, IntSl.load hs1 Tryz.sh3 hlt, hq3]; done) | (refine OpsW.step rfl ?_; simp [opV, e0, e2, e8, IntSl.idx hs1 Tryz.underlying36 Tryz.sz3 hlt, IntSl.load hs1 Tryz.sh3 hlt, hq3]) | (refine OpsW.step ?_ ?_; (focus (simp [wantedA, e0, e2, e8, IntSl.idx hs1 Tryz.underlying36 Tryz.sz3 hlt, IntSl.load hs1 Tryz.sh3 hlt, hq3]; done)); simp [opV, e0, e2, e8, IntSl.idx hs1 Tryz.underlying36 Tryz.sz3 hlt, IntSl.load hs1 Tryz.sh3 hlt, hq3]) | (refine OpsW.un ?_ ?_; (focus (simp [wantedA, e0, e2, e8, IntSl.idx hs1 Tryz.underlying36 Tryz.sz3 hlt, IntSl.load hs1 Tryz.sh3 hlt, hq3]; done))))))
    (refine FnW.mono (has_spec A1 k (lst K) q hk1) ?_; rintro _ A2 ⟨rfl, hA⟩)
    subst hA
    (repeat (first | (refine OpsW.step rfl ?_; simp [opV]; done) | (refine OpsW.step rfl ?_; simp [opV]) | (refine OpsW.step ?_ ?_; (focus (simp [wantedA]; done)); simp [opV]) | (refine OpsW.un ?_ ?_; (focus (simp [wantedA]; done)))))
    (refine OpsW.nil ?_; try simp only [andThen, endBlock])
    have hmem : ((q : Int) ∈ lst K) ↔ K.testBit q = true := by rw [mem_lst_nat]; simp [hq1]
    cases hb : K.testBit q with
    | true =>
      rw [hb] at hks hmem
      ((try simp only [andThen, endBlock, if_true]); repeat (first | with_reducible refine W.seq ?_ | with_reducible refine W.block ?_ | (refine W.region (by rfl) ?_; (repeat (first | (refine OpsW.step rfl ?_; simp [opV]; done) | (refine OpsW.step rfl ?_; simp [opV]) | (refine OpsW.step ?_ ?_; (focus (simp [wantedA]; done)); simp [opV]) | (refine OpsW.un ?_ ?_; (focus (simp [wantedA]; done))))); (refine OpsW.nil ?_; try simp only [andThen, endBlock]))))
      (refine W.cond false ?_ ?_; (focus (simp [hmem]; done)); simp only [Bool.false_eq_true, if_false])
      (refine W.skip ?_; try simp only [andThen, endBlock])
      ((try simp only [andThen, endBlock, if_true]); repeat (first | with_reducible refine W.seq ?_ | with_reducible refine W.block ?_ | (refine W.region (by rfl) ?_; (repeat (first | (refine OpsW.step rfl ?_; simp [opV, e8]; done) | (refine OpsW.step rfl ?_; simp [opV, e8]) | (refine OpsW.step ?_ ?_; (focus (simp [wantedA, e8]; done)); simp [opV, e8]) | (refine OpsW.un ?_ ?_; (focus (simp [wantedA, e8]; done))))); (refine OpsW.nil ?_; try simp only [andThen, endBlock]))))
      refine ⟨_, ?_, i + 1, rfl, by omega, ?_, by simp [e0], by simp [e2], by simp [wrap_succ hlt hs1.2], hx, by simpa using hfr⟩
      · omega
      · rw [hks]; simpa using hcur
    | false =>
      rw [hb] at hks hmem
      ((try simp only [andThen, endBlock, if_true]); repeat (first | with_reducible refine W.seq ?_ | with_reducible refine W.block ?_ | (refine W.region (by rfl) ?_; (repeat (first | (refine OpsW.step rfl ?_; simp [opV]; done) | (refine OpsW.step rfl ?_; simp [opV]) | (refine OpsW.step ?_ ?_; (focus (simp [wantedA]; done)); simp [opV]) | (refine OpsW.un ?_ ?_; (focus (simp [wantedA]; done))))); (refine OpsW.nil ?_; try simp only [andThen, endBlock]))))
      (refine W.cond true ?_ ?_; (focus (simp [hmem]; done)); simp only [if_true])
      (refine W.region (by rfl) ?_; (repeat (first | (refine OpsW.step rfl ?_; simp [opV, e0, e2, e8, IntSl.idx hs1 Tryz.underlying36 Tryz.sz3 hlt, IntSl.load hs1 Tryz.sh3 hlt, hq3]; done) | (refine OpsW.step rfl ?_; simp [opV, e0, e2, e8, IntSl.idx hs1 Tryz.underlying36 Tryz.sz3 hlt, IntSl.load hs1 Tryz.sh3 hlt, hq3]) | (refine OpsW.step ?_ ?_; (focus (simp [wantedA, e0, e2, e8, IntSl.idx hs1 Tryz.underlying36 Tryz.sz3 hlt, IntSl.load hs1 Tryz.sh3 hlt, hq3]; done)); simp [opV, e0, e2, e8, IntSl.idx hs1 Tryz.underlying36 Tryz.sz3 hlt, IntSl.load hs1 Tryz.sh3 hlt, hq3]) | (refine OpsW.un ?_ ?_; (focus (simp [wantedA, e0, e2, e8, IntSl.idx hs1 Tryz.underlying36 Tryz.sz3 hlt, IntSl.load hs1 Tryz.sh3 hlt, hq3]; done))))))
      (refine FnW.mono (with_set A1 (e.get 7) _ q hcur hq1) ?_; rintro u A2 ⟨g1, g2, g3⟩)
      (repeat (first | (refine OpsW.step rfl ?_; simp [opV]; done) | (refine OpsW.step rfl ?_; simp [opV]) | (refine OpsW.step ?_ ?_; (focus (simp [wantedA]; done)); simp [opV]) | (refine OpsW.un ?_ ?_; (focus (simp [wantedA]; done)))))
      (refine OpsW.nil ?_; try simp only [andThen, endBlock])
      ((try simp only [andThen, endBlock, if_true]); repeat (first | with_reducible refine W.seq ?_ | with_reducible refine W.block ?_ | (refine W.region (by rfl) ?_; (repeat (first | (refine OpsW.step rfl ?_; simp [opV, e8]; done) | (refine OpsW.step rfl ?_; simp [opV, e8]) | (refine OpsW.step ?_ ?_; (focus (simp [wantedA, e8]; done)); simp [opV, e8]) | (refine OpsW.un ?_ ?_; (focus (simp [wantedA, e8]; done))))); (refine OpsW.nil ?_; try simp only [andThen, endBlock]))))
      refine ⟨_, ?_, i + 1, rfl, by omega, ?_, by simp [e0], by simp [e2], by simp [wrap_succ hlt hs1.2], hx.trans g2, ?_⟩
      · omega
      · rw [hks]; simpa [Nat.or_assoc] using g1
      · simp
        rcases g3 with rfl | g3
        · exact hfr
        · exact .inr (Nat.le_trans hx.1 g3)
  · (refine W.cond false ?_ ?_; (focus (simp [hlt]; done)); simp only [Bool.false_eq_true, if_false])
    (refine W.exit ?_; try simp only [andThen, endBlock, if_true])
    ((try simp only [andThen, endBlock, if_true]); repeat (first | with_reducible refine W.seq ?_ | with_reducible refine W.block ?_ | (refine W.region (by rfl) ?_; (repeat (first | (refine OpsW.step rfl ?_; simp [opV]; done) | (refine OpsW.step rfl ?_; simp [opV]) | (refine OpsW.step ?_ ?_; (focus (simp [wantedA]; done)); simp [opV]) | (refine OpsW.un ?_ ?_; (focus (simp [wantedA]; done))))); (refine OpsW.nil ?_; try simp only [andThen, endBlock]))))
    (refine W.ret ?_; try simp only [andThen, endBlock])
    refine ⟨.inr rfl, [e.get 7], by simp [Tryz.f18, resultsA, resultA], ?_⟩
    rw [List.take_of_length_le (by omega), keep_all hs.2] at hcur
    exact ⟨hcur, hx, hfr⟩
end Go.Proofs

/-! IsSet of the reference. -/
namespace Go.Proofs
open Go Go.Ab
theorem sorted_ix {l : List Int} (h : l.Pairwise (· < ·)) {i j : Nat} (hij : i < j) (hj : j < l.length) : ix l i < ix l j := by
  rw [ix_eq (Nat.lt_trans hij hj), ix_eq hj]
  exact List.pairwise_iff_getElem.1 h i j _ _ hij
theorem isS_succ {l : List Int} {i : Nat} (hi : i < l.length) (h : IsS (l.take i)) (h0 : 0 ≤ ix l i) (h1 : ix l i < 1024) (h2 : 0 < i → ix l (i - 1) < ix l i) : IsS (l.take (i + 1)) := by
  rw [take_ix hi]
  constructor
  · rw [List.pairwise_append]
    refine ⟨h.1, by simp, fun a ha b hb => ?_⟩
    rw [List.mem_singleton] at hb
    subst hb
    obtain ⟨j, hj, rfl⟩ := List.getElem_of_mem ha
    have hj' : j < i := by simp at hj; omega
    have hp := h2 (by omega)
    have e1 : (l.take i)[j] = ix l j := by rw [ix_eq (by omega)]; simp
    rw [e1]
    by_cases hjj : j = i - 1
    · subst hjj; exact hp
    · have hl : (l.take i).length = i := by simp; omega
      have := sorted_ix h.1 (i := j) (j := i - 1) (by omega) (by omega)
      rw [ix_eq (by omega), ix_eq (by omega)] at this
      rw [ix_eq (by omega)] at hp ⊢
      simp at this
      have e2 : l[i - 1] < ix l i := by rw [ix_eq (by omega)] at hp ⊢; exact hp
      omega
  · intro x hx
    rw [List.mem_append, List.mem_singleton] at hx
    rcases hx with hx | rfl
    · exact h.2 x hx
    · exact ⟨h0, h1⟩
theorem wrap_pred {i n : Nat} (h0 : 0 < i) (h : i < n) (hn : n ≤ Most) : IntKind.i64.wrap ((i : Int) - 1) = ((i - 1 : Nat) : Int) := by
  rw [Most_eq] at hn
  rw [wrap64_in (by omega) (by omega)]; omega

variable [LoopTab]
def SetInv (A0 : AH) (v : AV) (l : List Int) (k : Nat) (e : En) (A : AH) : Prop := ∃ i : Nat, k = l.length - i ∧ i ≤ l.length ∧ e.get 0 = v ∧ e.get 3 = IV i ∧ A = A0 ∧ IsS (l.take i)
theorem isset_spec (A : AH) (v : AV) (l : List Int) (h : IntSl A v l) : FnW Tryz.prog 36 [v] A fun u A' => IsB u (IsS l) ∧ A = A' := by
  refine FnW.body Tryz.func36 (by decide) rfl Tryz.ntmps36 ?_
  generalize hE : bindArgs _ 0 _ = E
  have a0 := (congrArg (fun e => En.get e 0) hE).symm
  simp [bindArgs, kept, En.get_bind] at a0
  clear hE
  ((try simp only [andThen, endBlock, if_true]); repeat (first | with_reducible refine W.seq ?_ | with_reducible refine W.block ?_ | (refine W.region (by rfl) ?_; (repeat (first | (refine OpsW.step rfl ?_; simp [opV]; done) | (refine OpsW.step rfl ?_; simp [opV]) | (refine OpsW.step ?_ ?_; (focus (simp [wantedA]; done)); simp [opV]) | (refine OpsW.un ?_ ?_; (focus (simp [wantedA]; done))))); (refine OpsW.nil ?_; try simp only [andThen, endBlock]))))
  refine W.loop ?_
  refine LW.induct (SetInv A v l) ?_ _ _ A ⟨0, rfl, Nat.zero_le _, by simp [a0], by simp, rfl, by simp [IsS]⟩
  rintro k e A1 ⟨i, rfl, hi, e0, e3, rfl, hs⟩
  ((try simp only [andThen, endBlock, if_true]); repeat (first | with_reducible refine W.seq ?_ | with_reducible refine W.block ?_ | (refine W.region (by rfl) ?_; (repeat (first | (refine OpsW.step rfl ?_; simp [opV, e0, e3, IntSl.len h (P := Tryz.prog) Tryz.underlying36]; done) | (refine OpsW.step rfl ?_; simp [opV, e0, e3, IntSl.len h (P := Tryz.prog) Tryz.underlying36]) | (refine OpsW.step ?_ ?_; (focus (simp [wantedA, e0, e3, IntSl.len h (P := Tryz.prog) Tryz.underlying36]; done)); simp [opV, e0, e3, IntSl.len h (P := Tryz.prog) Tryz.underlying36]) | (refine OpsW.un ?_ ?_; (focus (simp [wantedA, e0, e3, IntSl.len h (P := Tryz.prog) Tryz.underlying36]; done))))); (refine OpsW.nil ?_; try simp only [andThen, endBlock]))))
  by_cases hlt : i < l.length
  · (refine W.cond true ?_ ?_; (focus (simp [hlt]; done)); simp only [if_true])
    (refine W.skip ?_; try simp only [andThen, endBlock])
    ((try simp only [andThen, endBlock, if_true]); repeat (first | with_reducible refine W.seq ?_ | with_reducible refine W.block ?_ | (refine W.region (by rfl) ?_; (repeat (first | (refine OpsW.step rfl ?_; simp [opV]; done) | (refine OpsW.step rfl ?_; simp [opV]) | (refine OpsW.step ?_ ?_; (focus (simp [wantedA]; done)); simp [opV]) | (refine OpsW.un ?_ ?_; (focus (simp [wantedA]; done))))); (refine OpsW.nil ?_; try simp only [andThen, endBlock]))))
    have bad : ¬ (0 ≤ ix l i ∧ ix l i < 1024 ∧ (0 < i → ix l (i - 1) < ix l i)) → ¬ IsS l := fun hn hS => hn ⟨(hS.2 _ (ix_mem hlt)).1, (hS.2 _ (ix_mem hlt)).2, fun h0 => sorted_ix hS.1 (by omega) hlt⟩
    by_cases c1 : ix l i < 0
    · (refine W.drawnS mixedP self0_ok [(0, 0), (1, 0), (2, 0), (3, 0), (4, 0), (5, 0), (6, 0), (7, 0), (8, 0), (9, 0), (10, 0), (11, 0), (12, 0), (13, 0), (14, 0), (15, 0), (16, 0), (17, 0), (18, 0), (19, 0), (20, 0), (21, 0), (22, 0), (23, 0), (24, 0), (25, 0), (26, 0), (27, 0)] (by rfl) (by kernel_rfl) ?_; (repeat (first | (refine RSW.step rfl rfl ?_; simp [stepV, cls, e0, e3, IntSl.idx h Tryz.underlying36 Tryz.sz3 hlt, IntSl.load h Tryz.sh3 hlt, c1]) | (refine RSW.step rfl ?_ ?_; (focus (simp [wantedA, e0, e3, IntSl.idx h Tryz.underlying36 Tryz.sz3 hlt, IntSl.load h Tryz.sh3 hlt, c1]; done)); simp [stepV, cls, e0, e3, IntSl.idx h Tryz.underlying36 Tryz.sz3 hlt, IntSl.load h Tryz.sh3 hlt, c1]) | (refine RSW.un rfl ?_ ?_ ?_; (focus (simp [wantedA, e0, e3, IntSl.idx h Tryz.underlying36 Tryz.sz3 hlt, IntSl.load h Tryz.sh3 hlt, c1]; done)); (focus (simp [cls]; done))))); refine RSW.nil ?_; try simp only [andThen, endBlock])
      (refine W.cond true ?_ ?_; (focus (simp; done)); simp only [if_true])
      ((try simp only [andThen, endBlock, if_true]); repeat (first | with_reducible refine W.seq ?_ | with_reducible refine W.block ?_ | (refine W.region (by rfl) ?_; (repeat (first | (refine OpsW.step rfl ?_; simp [opV]; done) | (refine OpsW.step rfl ?_; simp [opV]) | (refine OpsW.step ?_ ?_; (focus (simp [wantedA]; done)); simp [opV]) | (refine OpsW.un ?_ ?_; (focus (simp [wantedA]; done))))); (refine OpsW.nil ?_; try simp only [andThen, endBlock]))))
      (refine W.ret ?_; try simp only [andThen, endBlock])
      refine ⟨.inr rfl, [.bool false], by simp [Tryz.f36, resultsA, resultA], ?_⟩
      exact ⟨.no (bad (by omega)), rfl⟩
    by_cases c2 : 1024 ≤ ix l i
    · (refine W.drawnS mixedP self0_ok [(0, 0), (1, 0), (2, 0), (3, 0), (4, 0), (5, 0), (6, 0), (7, 0), (8, 0), (9, 0), (10, 0), (11, 0), (12, 0), (13, 0), (14, 0), (15, 0), (16, 0), (17, 0), (18, 0), (19, 0), (20, 0), (21, 0), (22, 0), (23, 0), (24, 0), (25, 0), (26, 0), (27, 0)] (by rfl) (by kernel_rfl) ?_; (repeat (first | (refine RSW.step rfl rfl ?_; simp [stepV, cls, e0, e3, IntSl.idx h Tryz.underlying36 Tryz.sz3 hlt, IntSl.load h Tryz.sh3 hlt, c1, c2]) | (refine RSW.step rfl ?_ ?_; (focus (simp [wantedA, e0, e3, IntSl.idx h Tryz.underlying36 Tryz.sz3 hlt, IntSl.load h Tryz.sh3 hlt, c1, c2]; done)); simp [stepV, cls, e0, e3, IntSl.idx h Tryz.underlying36 Tryz.sz3 hlt, IntSl.load h Tryz.sh3 hlt, c1, c2]) | (refine RSW.un rfl ?_ ?_ ?_; (focus (simp [wantedA, e0, e3, IntSl.idx h Tryz.underlying36 Tryz.sz3 hlt, IntSl.load h Tryz.sh3 hlt, c1, c2]; done)); (focus (simp [cls]; done))))); refine RSW.nil ?_; try simp only [andThen, endBlock])
      (refine W.cond true ?_ ?_; (focus (simp; done)); simp only [if_true])
      ((try simp only [andThen, endBlock, if_true]); repeat (first | with_reducible refine W.seq ?_ | with_reducible refine W.block ?_ | (refine W.region (by rfl) ?_; (repeat (first | (refine OpsW.step rfl ?_; simp [opV]; done) | (refine OpsW.step rfl ?_; simp [opV]) | (refine OpsW.step ?_ ?_; (focus (simp [wantedA]; done)); simp [opV]) | (refine OpsW.un ?_ ?_; (focus (simp [wantedA]; done))))); (refine OpsW.nil ?_; try simp only [andThen, endBlock]))))
      (refine W.ret ?_; try simp only [andThen, endBlock])
      refine ⟨.inr rfl, [.bool false], by simp [Tryz.f36, resultsA, resultA], ?_⟩
      exact ⟨.no (bad (by omega)), rfl⟩
    by_cases c3 : 0 < i
    · have hlt' : i - 1 < l.length := by omega
      by_cases c4 : ix l i ≤ ix l (i - 1)
      · (refine W.drawnS mixedP self0_ok [(0, 0), (1, 0), (2, 0), (3, 0), (4, 0), (5, 0), (6, 0), (7, 0), (8, 0), (9, 0), (10, 0), (11, 0), (12, 0), (13, 0), (14, 0), (15, 0), (16, 0), (17, 0), (18, 0), (19, 0), (20, 0), (21, 0), (22, 0), (23, 0), (24, 0), (25, 0), (26, 0), (27, 0)] (by rfl) (by kernel_rfl) ?_; (repeat (first | (refine RSW.step rfl rfl ?_; simp [stepV, cls, e0, e3, IntSl.idx h Tryz.underlying36 Tryz.sz3 hlt, IntSl.load h Tryz.sh3 hlt, c1, c2, c3, wrap_pred c3 hlt h.2, IntSl.idx h Tryz.underlying36 Tryz.sz3 hlt', IntSl.load h Tryz.sh3 hlt', c4]) | (refine RSW.step rfl ?_ ?_; (focus (simp [wantedA, e0, e3, IntSl.idx h Tryz.underlying36 Tryz.sz3 hlt, IntSl.load h Tryz.sh3 hlt, c1, c2, c3, wrap_pred c3 hlt h.2, IntSl.idx h Tryz.underlying36 Tryz.sz3 hlt', IntSl.load h Tryz.sh3 hlt', c4]; done)); simp [stepV, cls, e0, e3, IntSl.idx h Tryz.underlying36 Tryz.sz3 hlt, IntSl.load h Tryz.sh3 hlt, c1, c2, c3, wrap_pred c3 hlt h.2, IntSl.idx h Tryz.underlying36 Tryz.sz3 hlt', IntSl.load h Tryz.sh3 hlt', c4]) | (refine RSW.un rfl ?_ ?_ ?_; (focus (simp [wantedA, e0, e3, IntSl.idx h Tryz.underlying36 Tryz.sz3 hlt, IntSl.load h Tryz.sh3 hlt, c1, c2, c3, wrap_pred c3 hlt h.2, IntSl.idx h Tryz.underlying36 Tryz.sz3 hlt', IntSl.load h Tryz.sh3 hlt', c4]; done)); (focus (simp [cls]; done))))); refine RSW.nil ?_; try simp only [andThen, endBlock])
        (refine W.cond true ?_ ?_; (focus (simp; done)); simp only [if_true])
        ((try simp only [andThen, endBlock, if_true]); repeat (first | with_reducible refine W.seq ?_ | with_reducible refine W.block ?_ | (refine W.region (by rfl) ?_; (repeat (first | (refine OpsW.step rfl ?_; simp [opV]; done) | (refine OpsW.step rfl ?_; simp [opV]) | (refine OpsW.step ?_ ?_; (focus (simp [wantedA]; done)); simp [opV]) | (refine OpsW.un ?_ ?_; (focus (simp [wantedA]; done))))); (refine OpsW.nil ?_; try simp only [andThen, endBlock]))))
        (refine W.ret ?_; try simp only [andThen, endBlock])
        refine ⟨.inr rfl, [.bool false], by simp [Tryz.f36, resultsA, resultA], ?_⟩
        exact ⟨.no (bad (by omega)), rfl⟩
      · (refine W.drawnS mixedP self0_ok [(0, 0), (1, 0), (2, 0), (3, 0), (4, 0), (5, 0), (6, 0), (7, 0), (8, 0), (9, 0), (10, 0), (11, 0), (12, 0), (13, 0), (14, 0), (15, 0), (16, 0), (17, 0), (18, 0), (19, 0), (20, 0), (21, 0), (22, 0), (23, 0), (24, 0), (25, 0), (26, 0), (27, 0)] (by rfl) (by kernel_rfl) ?_; (repeat (first | (refine RSW.step rfl rfl ?_; simp [stepV, cls, e0, e3, IntSl.idx h Tryz.underlying36 Tryz.sz3 hlt, IntSl.load h Tryz.sh3 hlt, c1, c2, c3, wrap_pred c3 hlt h.2, IntSl.idx h Tryz.underlying36 Tryz.sz3 hlt', IntSl.load h Tryz.sh3 hlt', c4]) | (refine RSW.step rfl ?_ ?_; (focus (simp [wantedA, e0, e3, IntSl.idx h Tryz.underlying36 Tryz.sz3 hlt, IntSl.load h Tryz.sh3 hlt, c1, c2, c3, wrap_pred c3 hlt h.2, IntSl.idx h Tryz.underlying36 Tryz.sz3 hlt', IntSl.load h Tryz.sh3 hlt', c4]; done)); simp [stepV, cls, e0, e3, IntSl.idx h Tryz.underlying36 Tryz.sz3 hlt, IntSl.load h Tryz.sh3 hlt, c1, c2, c3, wrap_pred c3 hlt h.2, IntSl.idx h Tryz.underlying36 Tryz.sz3 hlt', IntSl.load h Tryz.sh3 hlt', c4]) | (refine RSW.un rfl ?_ ?_ ?_; (focus (simp [wantedA, e0, e3, IntSl.idx h Tryz.underlying36 Tryz.sz3 hlt, IntSl.load h Tryz.sh3 hlt, c1, c2, c3, wrap_pred c3 hlt h.2, IntSl.idx h Tryz.underlying36 Tryz.sz3 hlt', IntSl.load h Tryz.sh3 hlt', c4]; done)); (focus (simp [cls]; done))))); refine RSW.nil ?_; try simp only [andThen, endBlock])
        (refine W.cond false ?_ ?_; (focus (simp; done)); simp only [Bool.false_eq_true, if_false])
        (refine W.skip ?_; try simp only [andThen, endBlock])
        ((try simp only [andThen, endBlock, if_true]); repeat (first | with_reducible refine W.seq ?_ | with_reducible refine W.block ?_ | (refine W.region (by rfl) ?_; (repeat (first | (refine OpsW.step rfl ?_; simp [opV, e3]; done) | (refine OpsW.step rfl ?_; simp [opV, e3]) | (refine OpsW.step ?_ ?_; (focus (simp [wantedA, e3]; done)); simp [opV, e3]) | (refine OpsW.un ?_ ?_; (focus (simp [wantedA, e3]; done))))); (refine OpsW.nil ?_; try simp only [andThen, endBlock]))))
        exact ⟨_, by omega, i + 1, rfl, by omega, by simp [e0], by simp [wrap_succ hlt h.2], rfl, isS_succ hlt hs (by omega) (by omega) (by omega)⟩
    · (refine W.drawnS mixedP self0_ok [(0, 0), (1, 0), (2, 0), (3, 0), (4, 0), (5, 0), (6, 0), (7, 0), (8, 0), (9, 0), (10, 0), (11, 0), (12, 0), (13, 0), (14, 0), (15, 0), (16, 0), (17, 0), (18, 0), (19, 0), (20, 0), (21, 0), (22, 0), (23, 0), (24, 0), (25, 0), (26, 0), (27, 0)] (by rfl) (by kernel_rfl) ?_; (repeat (first | (refine RSW.step rfl rfl ?_; simp [stepV, cls, e0, e3, IntSl.idx h Tryz.underlying36 Tryz.sz3 hlt, IntSl.load h Tryz.sh3 hlt, c1, c2, c3]) | (refine RSW.step rfl ?_ ?_; (focus (simp [wantedA, e0, e3, IntSl.idx h Tryz.underlying36 Tryz.sz3 hlt, IntSl.load h Tryz.sh3 hlt, c1, c2, c3]; done)); simp [stepV, cls, e0, e3, IntSl.idx h Tryz.underlying36 Tryz.sz3 hlt, IntSl.load h Tryz.sh3 hlt, c1, c2, c3]) | (refine RSW.un rfl ?_ ?_ ?_; (focus (simp [wantedA, e0, e3, IntSl.idx h Tryz.underlying36 Tryz.sz3 hlt, IntSl.load h Tryz.sh3 hlt, c1, c2, c3]; done)); (focus (simp [cls]; done))))); refine RSW.nil ?_; try simp only [andThen, endBlock])
      (refine W.cond false ?_ ?_; (focus (simp; done)); simp only [Bool.false_eq_true, if_false])
      (refine W.skip ?_; try simp only [andThen, endBlock])
      ((try simp only [andThen, endBlock, if_true]); repeat (first | with_reducible refine W.seq ?_ | with_reducible refine W.block ?_ | (refine W.region (by rfl) ?_; (repeat (first | (refine OpsW.step rfl ?_; simp [opV, e3]; done) | (refine OpsW.step rfl ?_; simp [opV, e3]) | (refine OpsW.step ?_ ?_; (focus (simp [wantedA, e3]; done)); simp [opV, e3]) | (refine OpsW.un ?_ ?_; (focus (simp [wantedA, e3]; done))))); (refine OpsW.nil ?_; try simp only [andThen, endBlock]))))
      exact ⟨_, by omega, i + 1, rfl, by omega, by simp [e0], by simp [wrap_succ hlt h.2], rfl, isS_succ hlt hs (by omega) (by omega) (by omega)⟩
  · (refine W.cond false ?_ ?_; (focus (simp [hlt]; done)); simp only [Bool.false_eq_true, if_false])
    (refine W.exit ?_; try simp only [andThen, endBlock, if_true])
    ((try simp only [andThen, endBlock, if_true]); repeat (first | with_reducible refine W.seq ?_ | with_reducible refine W.block ?_ | (refine W.region (by rfl) ?_; (repeat (first | (refine OpsW.step rfl ?_; simp [opV]; done) | (refine OpsW.step rfl ?_; simp [opV]) | (refine OpsW.step ?_ ?_; (focus (simp [wantedA]; done)); simp [opV]) | (refine OpsW.un ?_ ?_; (focus (simp [wantedA]; done))))); (refine OpsW.nil ?_; try simp only [andThen, endBlock]))))
    (refine W.ret ?_; try simp only [andThen, endBlock])
    refine ⟨.inr rfl, [.bool true], by simp [Tryz.f36, resultsA, resultA], ?_⟩
    rw [List.take_of_length_le (by omega)] at hs
    exact ⟨.yes hs, rfl⟩
end Go.Proofs
