import Derived.Test.YtmaclibfncchgaaGreatDoorDuB
import Derived.Test.YtmaclibfncchgaaGreatDoorS54
import Derived.Test.YtmaclibfncchgaaGreatDoorEvE
set_option linter.all false
/-! DataflowDuals: the body. -/
namespace Go.Proofs
open Go Go.Ab
variable [LoopTab]
structure DuC where
  B : AH
  b : Nat
  p : AV
  gv : AV
  kv : AV
  x : AV
  y : AV
  nx : List (List Int)
structure DuS (c : DuC) (e : En) (A : AH) (i : Nat) : Prop where
  e1 : e.get 1 = c.gv
  e2 : e.get 2 = c.kv
  e3 : e.get 3 = .ptr c.b 0
  e7 : e.get 7 = c.x
  e8 : e.get 8 = c.y
  e101 : e.get 101 = c.p
  e102 : e.get 102 = IV c.nx.length
  e103 : e.get 103 = IV i
  ext : Ext c.B A
def DuInv (c : DuC) (m : Nat) (e : En) (A : AH) : Prop := ∃ i : Nat, m = c.nx.length - i ∧ i ≤ c.nx.length ∧ DuS c e A i
def DuInv2 (c : DuC) (I : Nat → Nat) (pn : AV) (A0 : AH) (i : Nat) (m : Nat) (e : En) (A : AH) : Prop := ∃ j : Nat, ∃ w, m = (lx c.nx i).length - j ∧ j ≤ (lx c.nx i).length ∧ DuS c e A i ∧ e.get 14 = IV i ∧ e.get 16 = w ∧ e.get 109 = pn ∧ e.get 110 = IV (lx c.nx i).length ∧ e.get 111 = IV j ∧ OwnI A0 A w (cat I ((lx c.nx i).take j)) ∧ Ext A0 A
def DuOut (c : DuC) (I : Nat → Nat) (A0 : AH) (i : Nat) (x : Ex) (e : En) (A : AH) : Prop := x = .exit 2 ∧ ∃ w, DuS c e A i ∧ e.get 14 = IV i ∧ e.get 16 = w ∧ OwnI A0 A w (cat I (lx c.nx i)) ∧ Ext A0 A
theorem intSl_eq {A : AH} {v : AV} {l : List Int} (h : IntSl A v l) : eqAV v v = true := by
  rcases h.1 with ⟨rfl | rfl, _, _⟩ | ⟨β, off, cap, ex, cs, rfl, _⟩
  · rfl
  · exact eqAV_slice _ _ _ _ _ _
  · exact eqAV_slice _ _ _ _ _ _
theorem law4_spec (haw : ∀ A, FnW Tryz.prog 5 [] A fun v A' => v = .bool true ∧ Ext A A') (A : AH) (p gv kv : AV) (nx gs ks : List (List Int)) (pcs gvs kvs : List AV) (h : Fl A p nx pcs) (hg : LL A gv gs gvs) (hk : LL A kv ks kvs) : FnW Tryz.prog 4 [.agg [p], gv, kv] A fun u A' => u = .bool true ∧ Ext A A' := by
  refine FnW.body Tryz.func4 (by decide) rfl Tryz.ntmps4 ?_
  generalize hE : bindArgs _ 0 _ = E
  have a0 := (congrArg (fun e => En.get e 0) hE).symm
  simp [bindArgs, kept, En.get_bind] at a0
  have a1 := (congrArg (fun e => En.get e 1) hE).symm
  simp [bindArgs, kept, En.get_bind] at a1
  have a2 := (congrArg (fun e => En.get e 2) hE).symm
  simp [bindArgs, kept, En.get_bind] at a2
  clear hE
  refine W.seq ?_
  (refine W.region (by rfl) ?_; (repeat (first | (refine OpsW.step rfl ?_; simp [opV, a0]; done) | (refine OpsW.step rfl ?_; simp [opV, a0]) | (refine OpsW.step ?_ ?_; (focus (simp [wantedA, a0]; done)); simp [opV, a0]) | (refine OpsW.un ?_ ?_; (focus (simp [wantedA, a0]; done))))); (refine OpsW.nil ?_; try simp only [andThen, endBlock]))
  have hb := Box.new A p
  have hx := Ext.box A (.cells [p])
  have hf := h.ext hx
  generalize A.push (.cells [p]) = B at *
  refine W.seq ?_
  refine W.seq ?_
  (refine W.region (by rfl) ?_; (repeat (first | (refine OpsW.step rfl ?_; simp [opV]; done) | (refine OpsW.step rfl ?_; simp [opV]) | (refine OpsW.step ?_ ?_; (focus (simp [wantedA]; done)); simp [opV]) | (refine OpsW.un ?_ ?_; (focus (simp [wantedA]; done))))))
  (refine FnW.mono (haw B) ?_; rintro _ A1 ⟨rfl, hx1⟩)
  (repeat (first | (refine OpsW.step rfl ?_; simp [opV]; done) | (refine OpsW.step rfl ?_; simp [opV]) | (refine OpsW.step ?_ ?_; (focus (simp [wantedA]; done)); simp [opV]) | (refine OpsW.un ?_ ?_; (focus (simp [wantedA]; done)))))
  (refine OpsW.nil ?_; try simp only [andThen, endBlock])
  (refine W.cond false ?_ ?_; (focus (simp; done)); simp only [Bool.false_eq_true, if_false])
  (refine W.skip ?_; try simp only [andThen, endBlock])
  have hb1 := hb.ext hx1
  have hf1 := hf.ext hx1
  have hg1 := (hg.ext hx).ext hx1
  have hk1 := (hk.ext hx).ext hx1
  have hx01 := hx.trans hx1
  clear hb hf hg hk hx hx1
  refine W.seq ?_
  refine W.seq ?_
  (refine W.region (by rfl) ?_; (repeat (first | (refine OpsW.step rfl ?_; simp [opV, box_whole hb1.get Tryz.sh24]; done) | (refine OpsW.step rfl ?_; simp [opV, box_whole hb1.get Tryz.sh24]) | (refine OpsW.step ?_ ?_; (focus (simp [wantedA, box_whole hb1.get Tryz.sh24]; done)); simp [opV, box_whole hb1.get Tryz.sh24]) | (refine OpsW.un ?_ ?_; (focus (simp [wantedA, box_whole hb1.get Tryz.sh24]; done))))))
  (refine FnW.mono (small_spec A1 p nx pcs 14 hf1) ?_; rintro _ A2 ⟨⟨t, rfl, ht⟩, hx2⟩)
  have hb2 := hb1.ext hx2
  have hf2 := hf1.ext hx2
  have hg2 := hg1.ext hx2
  have hk2 := hk1.ext hx2
  have hx02 := hx01.trans hx2
  clear hb1 hf1 hg1 hk1 hx01 hx2
  cases t with
  | false =>
    (repeat (first | (refine OpsW.step rfl ?_; simp [opV]; done) | (refine OpsW.step rfl ?_; simp [opV]) | (refine OpsW.step ?_ ?_; (focus (simp [wantedA]; done)); simp [opV]) | (refine OpsW.un ?_ ?_; (focus (simp [wantedA]; done)))))
    (refine OpsW.nil ?_; try simp only [andThen, endBlock])
    (refine W.cond true ?_ ?_; (focus (simp; done)); simp only [if_true])
    ((try simp only [andThen, endBlock, if_true]); repeat (first | with_reducible refine W.seq ?_ | with_reducible refine W.block ?_ | (refine W.region (by rfl) ?_; (repeat (first | (refine OpsW.step rfl ?_; simp [opV]; done) | (refine OpsW.step rfl ?_; simp [opV]) | (refine OpsW.step ?_ ?_; (focus (simp [wantedA]; done)); simp [opV]) | (refine OpsW.un ?_ ?_; (focus (simp [wantedA]; done))))); (refine OpsW.nil ?_; try simp only [andThen, endBlock]))))
    (refine W.ret ?_; try simp only [andThen, endBlock])
    refine ⟨.inr rfl, [.bool true], by simp [Tryz.f4, resultsA, resultA], ?_⟩
    exact ⟨rfl, hx02⟩
  | true =>
  have hsm := ht.1 rfl
  clear ht
  (repeat (first | (refine OpsW.step rfl ?_; simp [opV, box_whole hb2.get Tryz.sh24]; done) | (refine OpsW.step rfl ?_; simp [opV, box_whole hb2.get Tryz.sh24]) | (refine OpsW.step ?_ ?_; (focus (simp [wantedA, box_whole hb2.get Tryz.sh24]; done)); simp [opV, box_whole hb2.get Tryz.sh24]) | (refine OpsW.un ?_ ?_; (focus (simp [wantedA, box_whole hb2.get Tryz.sh24]; done)))))
  (refine FnW.mono (valid_spec A2 p nx pcs hf2) ?_; rintro _ A3 ⟨⟨t, rfl, ht⟩, hx3⟩)
  have hb3 := hb2.ext hx3
  have hf3 := hf2.ext hx3
  have hg3 := hg2.ext hx3
  have hk3 := hk2.ext hx3
  have hx03 := hx02.trans hx3
  clear hb2 hf2 hg2 hk2 hx02 hx3
  cases t with
  | false =>
    (repeat (first | (refine OpsW.step rfl ?_; simp [opV]; done) | (refine OpsW.step rfl ?_; simp [opV]) | (refine OpsW.step ?_ ?_; (focus (simp [wantedA]; done)); simp [opV]) | (refine OpsW.un ?_ ?_; (focus (simp [wantedA]; done)))))
    (refine OpsW.nil ?_; try simp only [andThen, endBlock])
    (refine W.cond true ?_ ?_; (focus (simp; done)); simp only [if_true])
    ((try simp only [andThen, endBlock, if_true]); repeat (first | with_reducible refine W.seq ?_ | with_reducible refine W.block ?_ | (refine W.region (by rfl) ?_; (repeat (first | (refine OpsW.step rfl ?_; simp [opV]; done) | (refine OpsW.step rfl ?_; simp [opV]) | (refine OpsW.step ?_ ?_; (focus (simp [wantedA]; done)); simp [opV]) | (refine OpsW.un ?_ ?_; (focus (simp [wantedA]; done))))); (refine OpsW.nil ?_; try simp only [andThen, endBlock]))))
    (refine W.ret ?_; try simp only [andThen, endBlock])
    refine ⟨.inr rfl, [.bool true], by simp [Tryz.f4, resultsA, resultA], ?_⟩
    exact ⟨rfl, hx03⟩
  | true =>
  have hv := ht.1 rfl
  clear ht
  (repeat (first | (refine OpsW.step rfl ?_; simp [opV, box_whole hb3.get Tryz.sh24, a1]; done) | (refine OpsW.step rfl ?_; simp [opV, box_whole hb3.get Tryz.sh24, a1]) | (refine OpsW.step ?_ ?_; (focus (simp [wantedA, box_whole hb3.get Tryz.sh24, a1]; done)); simp [opV, box_whole hb3.get Tryz.sh24, a1]) | (refine OpsW.un ?_ ?_; (focus (simp [wantedA, box_whole hb3.get Tryz.sh24, a1]; done)))))
  (refine FnW.mono (sets_spec A3 p nx pcs gv gs gvs hf3 hg3) ?_; rintro _ A4 ⟨⟨t, rfl, ht⟩, hx4⟩)
  have hb4 := hb3.ext hx4
  have hf4 := hf3.ext hx4
  have hg4 := hg3.ext hx4
  have hk4 := hk3.ext hx4
  have hx04 := hx03.trans hx4
  clear hb3 hf3 hg3 hk3 hx03 hx4
  cases t with
  | false =>
    (repeat (first | (refine OpsW.step rfl ?_; simp [opV]; done) | (refine OpsW.step rfl ?_; simp [opV]) | (refine OpsW.step ?_ ?_; (focus (simp [wantedA]; done)); simp [opV]) | (refine OpsW.un ?_ ?_; (focus (simp [wantedA]; done)))))
    (refine OpsW.nil ?_; try simp only [andThen, endBlock])
    (refine W.cond true ?_ ?_; (focus (simp; done)); simp only [if_true])
    ((try simp only [andThen, endBlock, if_true]); repeat (first | with_reducible refine W.seq ?_ | with_reducible refine W.block ?_ | (refine W.region (by rfl) ?_; (repeat (first | (refine OpsW.step rfl ?_; simp [opV]; done) | (refine OpsW.step rfl ?_; simp [opV]) | (refine OpsW.step ?_ ?_; (focus (simp [wantedA]; done)); simp [opV]) | (refine OpsW.un ?_ ?_; (focus (simp [wantedA]; done))))); (refine OpsW.nil ?_; try simp only [andThen, endBlock]))))
    (refine W.ret ?_; try simp only [andThen, endBlock])
    refine ⟨.inr rfl, [.bool true], by simp [Tryz.f4, resultsA, resultA], ?_⟩
    exact ⟨rfl, hx04⟩
  | true =>
  have hsg := ht.1 rfl
  clear ht
  (repeat (first | (refine OpsW.step rfl ?_; simp [opV, box_whole hb4.get Tryz.sh24, a2]; done) | (refine OpsW.step rfl ?_; simp [opV, box_whole hb4.get Tryz.sh24, a2]) | (refine OpsW.step ?_ ?_; (focus (simp [wantedA, box_whole hb4.get Tryz.sh24, a2]; done)); simp [opV, box_whole hb4.get Tryz.sh24, a2]) | (refine OpsW.un ?_ ?_; (focus (simp [wantedA, box_whole hb4.get Tryz.sh24, a2]; done)))))
  (refine FnW.mono (sets_spec A4 p nx pcs kv ks kvs hf4 hk4) ?_; rintro _ A5 ⟨⟨t, rfl, ht⟩, hx5⟩)
  have hb5 := hb4.ext hx5
  have hf5 := hf4.ext hx5
  have hg5 := hg4.ext hx5
  have hk5 := hk4.ext hx5
  have hx05 := hx04.trans hx5
  clear hb4 hf4 hg4 hk4 hx04 hx5
  cases t with
  | false =>
    (repeat (first | (refine OpsW.step rfl ?_; simp [opV]; done) | (refine OpsW.step rfl ?_; simp [opV]) | (refine OpsW.step ?_ ?_; (focus (simp [wantedA]; done)); simp [opV]) | (refine OpsW.un ?_ ?_; (focus (simp [wantedA]; done)))))
    (refine OpsW.nil ?_; try simp only [andThen, endBlock])
    (refine W.cond true ?_ ?_; (focus (simp; done)); simp only [if_true])
    ((try simp only [andThen, endBlock, if_true]); repeat (first | with_reducible refine W.seq ?_ | with_reducible refine W.block ?_ | (refine W.region (by rfl) ?_; (repeat (first | (refine OpsW.step rfl ?_; simp [opV]; done) | (refine OpsW.step rfl ?_; simp [opV]) | (refine OpsW.step ?_ ?_; (focus (simp [wantedA]; done)); simp [opV]) | (refine OpsW.un ?_ ?_; (focus (simp [wantedA]; done))))); (refine OpsW.nil ?_; try simp only [andThen, endBlock]))))
    (refine W.ret ?_; try simp only [andThen, endBlock])
    refine ⟨.inr rfl, [.bool true], by simp [Tryz.f4, resultsA, resultA], ?_⟩
    exact ⟨rfl, hx05⟩
  | true =>
  have hsk := ht.1 rfl
  clear ht
  (repeat (first | (refine OpsW.step rfl ?_; simp [opV]; done) | (refine OpsW.step rfl ?_; simp [opV]) | (refine OpsW.step ?_ ?_; (focus (simp [wantedA]; done)); simp [opV]) | (refine OpsW.un ?_ ?_; (focus (simp [wantedA]; done)))))
  (refine OpsW.nil ?_; try simp only [andThen, endBlock])
  (refine W.cond false ?_ ?_; (focus (simp; done)); simp only [Bool.false_eq_true, if_false])
  (refine W.skip ?_; try simp only [andThen, endBlock])
  have hn14 := hsm.1
  have hn2 := hv.1
  refine W.seq ?_
  (refine W.region (by rfl) ?_; (repeat (first | (refine OpsW.step rfl ?_; simp [opV, box_whole hb5.get Tryz.sh24, a1, a2]; done) | (refine OpsW.step rfl ?_; simp [opV, box_whole hb5.get Tryz.sh24, a1, a2]) | (refine OpsW.step ?_ ?_; (focus (simp [wantedA, box_whole hb5.get Tryz.sh24, a1, a2]; done)); simp [opV, box_whole hb5.get Tryz.sh24, a1, a2]) | (refine OpsW.un ?_ ?_; (focus (simp [wantedA, box_whole hb5.get Tryz.sh24, a1, a2]; done))))))
  (refine FnW.mono (psolve_spec A5 p gv kv nx gs ks pcs gvs kvs false hf5 hg5 hk5 (by omega) (fun i hi => by have := hsm.2 i hi; omega)) ?_; rintro u A6 ⟨hans, hx6⟩)
  rcases hans with ⟨hno, _⟩ | ⟨_, x, y, I, O, xs, ys, rfl, lx6, ly6, hleast⟩
  · exact absurd ⟨hv, hsg, hsk⟩ hno
  have hleast : Least nx.length (Edge false nx) (GK gs) (GK ks) O I := hleast
  have hb6 := hb5.ext hx6
  have hf6 := hf5.ext hx6
  have hg6 := hg5.ext hx6
  have hk6 := hk5.ext hx6
  have hx06 := hx05.trans hx6
  clear hb5 hf5 hg5 hk5 hx05 hx6
  (repeat (first | (refine OpsW.step rfl ?_; simp [opV]; done) | (refine OpsW.step rfl ?_; simp [opV]) | (refine OpsW.step ?_ ?_; (focus (simp [wantedA]; done)); simp [opV]) | (refine OpsW.un ?_ ?_; (focus (simp [wantedA]; done)))))
  (refine OpsW.nil ?_; try simp only [andThen, endBlock])
  ((try simp only [andThen, endBlock, if_true]); repeat (first | with_reducible refine W.seq ?_ | with_reducible refine W.block ?_ | (refine W.region (by rfl) ?_; (repeat (first | (refine OpsW.step rfl ?_; simp [opV]; done) | (refine OpsW.step rfl ?_; simp [opV]) | (refine OpsW.step ?_ ?_; (focus (simp [wantedA]; done)); simp [opV]) | (refine OpsW.un ?_ ?_; (focus (simp [wantedA]; done))))); (refine OpsW.nil ?_; try simp only [andThen, endBlock]))))
  (refine W.region (by rfl) ?_; (repeat (first | (refine OpsW.step rfl ?_; simp [opV, box_whole hb6.get Tryz.sh24]; done) | (refine OpsW.step rfl ?_; simp [opV, box_whole hb6.get Tryz.sh24]) | (refine OpsW.step ?_ ?_; (focus (simp [wantedA, box_whole hb6.get Tryz.sh24]; done)); simp [opV, box_whole hb6.get Tryz.sh24]) | (refine OpsW.un ?_ ?_; (focus (simp [wantedA, box_whole hb6.get Tryz.sh24]; done))))))
  (refine FnW.mono (reverse_spec A6 p nx pcs hf6 hv (by omega) (fun i hi => by have := hsm.2 i hi; omega) (Nat.lt_of_le_of_lt (Nat.zero_le _) hb6.lt)) ?_; rintro _ A7 ⟨⟨q, rcs, rfl, hfr⟩, hx7⟩)
  have hb7 := hb6.ext hx7
  have hf7 := hf6.ext hx7
  have hg7 := hg6.ext hx7
  have hk7 := hk6.ext hx7
  have lx7 := lx6.ext hx7
  have ly7 := ly6.ext hx7
  have hx07 := hx06.trans hx7
  clear hb6 hf6 hg6 hk6 hx06 hx7 lx6 ly6
  have hgl := hsg.1
  have hkl := hsk.1
  (repeat (first | (refine OpsW.step rfl ?_; simp [opV, a1]; done) | (refine OpsW.step rfl ?_; simp [opV, a1]) | (refine OpsW.step ?_ ?_; (focus (simp [wantedA, a1]; done)); simp [opV, a1]) | (refine OpsW.un ?_ ?_; (focus (simp [wantedA, a1]; done)))))
  (refine FnW.mono (turn_spec A7 gv gs gvs hg7 (by omega) (by omega)) ?_; rintro gv2 A8 ⟨hg', hx8⟩)
  have hb8 := hb7.ext hx8
  have hf8 := hf7.ext hx8
  have hg8 := hg7.ext hx8
  have hk8 := hk7.ext hx8
  have lx8 := lx7.ext hx8
  have ly8 := ly7.ext hx8
  have hfr8 := hfr.ext hx8
  have hx08 := hx07.trans hx8
  clear hb7 hf7 hg7 hk7 hx07 hx8 lx7 ly7 hfr
  (repeat (first | (refine OpsW.step rfl ?_; simp [opV, a2]; done) | (refine OpsW.step rfl ?_; simp [opV, a2]) | (refine OpsW.step ?_ ?_; (focus (simp [wantedA, a2]; done)); simp [opV, a2]) | (refine OpsW.un ?_ ?_; (focus (simp [wantedA, a2]; done)))))
  (refine FnW.mono (turn_spec A8 kv ks kvs hk8 (by omega) (by omega)) ?_; rintro kv2 A9 ⟨hk', hx9⟩)
  have hb9 := hb8.ext hx9
  have hf9 := hf8.ext hx9
  have hg9 := hg8.ext hx9
  have hk9 := hk8.ext hx9
  have lx9 := lx8.ext hx9
  have ly9 := ly8.ext hx9
  have hfr9 := hfr8.ext hx9
  have hg9' := hg'.ext hx9
  have hx09 := hx08.trans hx9
  clear hb8 hf8 hg8 hk8 hx08 hx9 lx8 ly8 hfr8 hg'
  (repeat (first | (refine OpsW.step rfl ?_; simp [opV]; done) | (refine OpsW.step rfl ?_; simp [opV]) | (refine OpsW.step ?_ ?_; (focus (simp [wantedA]; done)); simp [opV]) | (refine OpsW.un ?_ ?_; (focus (simp [wantedA]; done)))))
  have hrl : ∀ i, i < (revF nx).length → (lx (revF nx) i).length ≤ 1000 := fun i hi => by
    rw [revF_length] at hi
    rw [lx_revF hi]
    have h1 := rev_length hsm.2 i nx.length (Nat.le_refl _)
    have h2 : nx.length * 8 ≤ 14 * 8 := Nat.mul_le_mul_right _ hn14
    omega
  (refine FnW.mono (psolve_spec A9 q gv2 kv2 (revF nx) (swp [] gs) (swp [] ks) rcs _ _ true hfr9 hg9' hk' (by rw [revF_length]; omega) hrl) ?_; rintro u A10 ⟨hans, hx10⟩)
  rcases hans with ⟨hno, _⟩ | ⟨_, x2, y2, I2, O2, xs2, ys2, rfl, lx2, ly2, hleast2⟩
  · exact absurd ⟨ValidF.rev hv, by rw [revF_length]; exact SetsL_swp hn2 hsg, by rw [revF_length]; exact SetsL_swp hn2 hsk⟩ hno
  rw [revF_length] at lx2 ly2 hleast2
  have hu := dual_unique hv hsg hsk hleast hleast2
  have hb10 := hb9.ext hx10
  have hf10 := hf9.ext hx10
  have hg10 := hg9.ext hx10
  have hk10 := hk9.ext hx10
  have lx10 := lx9.ext hx10
  have ly10 := ly9.ext hx10
  have hx010 := hx09.trans hx10
  clear hb9 hf9 hg9 hk9 hx09 hx10 lx9 ly9 hfr9 hg9' hk'
  (repeat (first | (refine OpsW.step rfl ?_; simp [opV]; done) | (refine OpsW.step rfl ?_; simp [opV]) | (refine OpsW.step ?_ ?_; (focus (simp [wantedA]; done)); simp [opV]) | (refine OpsW.un ?_ ?_; (focus (simp [wantedA]; done)))))
  (refine OpsW.nil ?_; try simp only [andThen, endBlock])
  refine W.seq ?_
  refine W.seq ?_
  (refine W.region (by rfl) ?_; (repeat (first | (refine OpsW.step rfl ?_; simp [opV, LL.len lx10 (P := Tryz.prog) Tryz.underlying25, LL.len ly10 (P := Tryz.prog) Tryz.underlying25, rows_length, box_load hb10.get Tryz.sh22, Fl.len hf10 (P := Tryz.prog) Tryz.underlying22]; done) | (refine OpsW.step rfl ?_; simp [opV, LL.len lx10 (P := Tryz.prog) Tryz.underlying25, LL.len ly10 (P := Tryz.prog) Tryz.underlying25, rows_length, box_load hb10.get Tryz.sh22, Fl.len hf10 (P := Tryz.prog) Tryz.underlying22]) | (refine OpsW.step ?_ ?_; (focus (simp [wantedA, LL.len lx10 (P := Tryz.prog) Tryz.underlying25, LL.len ly10 (P := Tryz.prog) Tryz.underlying25, rows_length, box_load hb10.get Tryz.sh22, Fl.len hf10 (P := Tryz.prog) Tryz.underlying22]; done)); simp [opV, LL.len lx10 (P := Tryz.prog) Tryz.underlying25, LL.len ly10 (P := Tryz.prog) Tryz.underlying25, rows_length, box_load hb10.get Tryz.sh22, Fl.len hf10 (P := Tryz.prog) Tryz.underlying22]) | (refine OpsW.un ?_ ?_; (focus (simp [wantedA, LL.len lx10 (P := Tryz.prog) Tryz.underlying25, LL.len ly10 (P := Tryz.prog) Tryz.underlying25, rows_length, box_load hb10.get Tryz.sh22, Fl.len hf10 (P := Tryz.prog) Tryz.underlying22]; done))))))
  (refine FnW.mono (turn_spec A10 x (rows nx.length I) xs lx10 (by rw [rows_length]; omega) (by rw [rows_length]; omega)) ?_; rintro t1 A11 ⟨ht1, hx11⟩)
  (repeat (first | (refine OpsW.step rfl ?_; simp [opV]; done) | (refine OpsW.step rfl ?_; simp [opV]) | (refine OpsW.step ?_ ?_; (focus (simp [wantedA]; done)); simp [opV]) | (refine OpsW.un ?_ ?_; (focus (simp [wantedA]; done)))))
  (refine FnW.mono (lists_spec A11 t1 y2 _ _ _ _ ht1 (ly2.ext hx11)) ?_; rintro _ A12 ⟨⟨t, rfl, ht⟩, hA⟩)
  subst hA
  have htt := ht.2 hu.1
  subst htt
  (repeat (first | (refine OpsW.step rfl ?_; simp [opV]; done) | (refine OpsW.step rfl ?_; simp [opV]) | (refine OpsW.step ?_ ?_; (focus (simp [wantedA]; done)); simp [opV]) | (refine OpsW.un ?_ ?_; (focus (simp [wantedA]; done)))))
  (refine FnW.mono (turn_spec A11 y (rows nx.length O) ys (ly10.ext hx11) (by rw [rows_length]; omega) (by rw [rows_length]; omega)) ?_; rintro t2 A12 ⟨ht2, hx12⟩)
  (repeat (first | (refine OpsW.step rfl ?_; simp [opV]; done) | (refine OpsW.step rfl ?_; simp [opV]) | (refine OpsW.step ?_ ?_; (focus (simp [wantedA]; done)); simp [opV]) | (refine OpsW.un ?_ ?_; (focus (simp [wantedA]; done)))))
  (refine FnW.mono (lists_spec A12 t2 x2 _ _ _ _ ht2 ((lx2.ext hx11).ext hx12)) ?_; rintro _ A13 ⟨⟨t, rfl, ht'⟩, hA⟩)
  subst hA
  have htt := ht'.2 hu.2
  subst htt
  (repeat (first | (refine OpsW.step rfl ?_; simp [opV]; done) | (refine OpsW.step rfl ?_; simp [opV]) | (refine OpsW.step ?_ ?_; (focus (simp [wantedA]; done)); simp [opV]) | (refine OpsW.un ?_ ?_; (focus (simp [wantedA]; done)))))
  (refine OpsW.nil ?_; try simp only [andThen, endBlock])
  (refine W.cond false ?_ ?_; (focus (simp; done)); simp only [Bool.false_eq_true, if_false])
  (refine W.skip ?_; try simp only [andThen, endBlock])
  have hx12' := hx11.trans hx12
  have hb := hb10.ext hx12'
  have hf := hf10.ext hx12'
  have hg := hg10.ext hx12'
  have hk := hk10.ext hx12'
  have lx := lx10.ext hx12'
  have ly := ly10.ext hx12'
  have hx0 := hx010.trans hx12'
  clear hb10 hf10 hg10 hk10 lx10 ly10 hx010 hx12' ht1 ht2 ht ht' lx2 ly2 hleast2 hu hx11 hx12
  ((try simp only [andThen, endBlock, if_true]); repeat (first | with_reducible refine W.seq ?_ | with_reducible refine W.block ?_ | (refine W.region (by rfl) ?_; (repeat (first | (refine OpsW.step rfl ?_; simp [opV, box_load hb.get Tryz.sh22, Fl.len hf (P := Tryz.prog) Tryz.underlying22]; done) | (refine OpsW.step rfl ?_; simp [opV, box_load hb.get Tryz.sh22, Fl.len hf (P := Tryz.prog) Tryz.underlying22]) | (refine OpsW.step ?_ ?_; (focus (simp [wantedA, box_load hb.get Tryz.sh22, Fl.len hf (P := Tryz.prog) Tryz.underlying22]; done)); simp [opV, box_load hb.get Tryz.sh22, Fl.len hf (P := Tryz.prog) Tryz.underlying22]) | (refine OpsW.un ?_ ?_; (focus (simp [wantedA, box_load hb.get Tryz.sh22, Fl.len hf (P := Tryz.prog) Tryz.underlying22]; done))))); (refine OpsW.nil ?_; try simp only [andThen, endBlock]))))
  refine W.loop ?_
  refine LW.induct (DuInv ⟨A12, A.next, p, gv, kv, x, y, nx⟩) ?_ _ _ A12 ⟨0, rfl, Nat.zero_le _, by simp [a1], by simp [a2], by simp, by simp, by simp, by simp, by simp, by simp, Ext.refl _⟩
  rintro m e A13 ⟨i, rfl, hi, s⟩
  obtain ⟨e1, e2, e3, e7, e8, e101, e102, e103, hx⟩ := s
  simp only at e1 e2 e3 e7 e8 e101 e102 e103 hx hi
  ((try simp only [andThen, endBlock, if_true]); repeat (first | with_reducible refine W.seq ?_ | with_reducible refine W.block ?_ | (refine W.region (by rfl) ?_; (repeat (first | (refine OpsW.step rfl ?_; simp [opV, e102, e103]; done) | (refine OpsW.step rfl ?_; simp [opV, e102, e103]) | (refine OpsW.step ?_ ?_; (focus (simp [wantedA, e102, e103]; done)); simp [opV, e102, e103]) | (refine OpsW.un ?_ ?_; (focus (simp [wantedA, e102, e103]; done))))); (refine OpsW.nil ?_; try simp only [andThen, endBlock]))))
  by_cases hlt : i < nx.length
  rotate_left
  · (refine W.cond false ?_ ?_; (focus (simp [hlt]; done)); simp only [Bool.false_eq_true, if_false])
    (refine W.exit ?_; try simp only [andThen, endBlock, if_true])
    ((try simp only [andThen, endBlock, if_true]); repeat (first | with_reducible refine W.seq ?_ | with_reducible refine W.block ?_ | (refine W.region (by rfl) ?_; (repeat (first | (refine OpsW.step rfl ?_; simp [opV]; done) | (refine OpsW.step rfl ?_; simp [opV]) | (refine OpsW.step ?_ ?_; (focus (simp [wantedA]; done)); simp [opV]) | (refine OpsW.un ?_ ?_; (focus (simp [wantedA]; done))))); (refine OpsW.nil ?_; try simp only [andThen, endBlock]))))
    (refine W.ret ?_; try simp only [andThen, endBlock])
    refine ⟨.inr rfl, [.bool true], by simp [Tryz.f4, resultsA, resultA], ?_⟩
    exact ⟨rfl, hx0.trans hx⟩
  (refine W.cond true ?_ ?_; (focus (simp [hlt]; done)); simp only [if_true])
  (refine W.skip ?_; try simp only [andThen, endBlock])
  have hfA := hf.ext hx
  have hst : storeA Tryz.prog (A13.push (.cells [.int .i64 0, .int .i64 0, .nilslice])) 39 (.ptr A13.next 0) (.agg (pt pcs i)) = _ := store_new Tryz.sz39 (by rfl) (by rfl)
  refine W.seq ?_
  refine W.block ?_
  refine W.seq ?_
  (refine W.region (by rfl) ?_; (repeat (first | (refine OpsW.step rfl ?_; simp [opV, e101, e103, Fl.idx hfA Tryz.underlying22 Tryz.sz39 hlt, Fl.whole hfA Tryz.sh39 hlt, hst]; done) | (refine OpsW.step rfl ?_; simp [opV, e101, e103, Fl.idx hfA Tryz.underlying22 Tryz.sz39 hlt, Fl.whole hfA Tryz.sh39 hlt, hst]) | (refine OpsW.step ?_ ?_; (focus (simp [wantedA, e101, e103, Fl.idx hfA Tryz.underlying22 Tryz.sz39 hlt, Fl.whole hfA Tryz.sh39 hlt, hst]; done)); simp [opV, e101, e103, Fl.idx hfA Tryz.underlying22 Tryz.sz39 hlt, Fl.whole hfA Tryz.sh39 hlt, hst]) | (refine OpsW.un ?_ ?_; (focus (simp [wantedA, e101, e103, Fl.idx hfA Tryz.underlying22 Tryz.sz39 hlt, Fl.whole hfA Tryz.sh39 hlt, hst]; done))))); (refine OpsW.nil ?_; try simp only [andThen, endBlock]))
  have hx3 := Ext.new A13 (.cells [.int .i64 0, .int .i64 0, .nilslice]) (.cells (pt pcs i))
  have hgg := get_new A13 (.cells [.int .i64 0, .int .i64 0, .nilslice]) (.cells (pt pcs i))
  have hld : loadA Tryz.prog ((A13.push (.cells [.int .i64 0, .int .i64 0, .nilslice])).put A13.next (.cells (pt pcs i))) 36 (.ptr A13.next 2) = some (vx pcs (i * 3 + 2)) := cell_load hgg Tryz.sh36
  generalize (A13.push (.cells [.int .i64 0, .int .i64 0, .nilslice])).put A13.next (.cells (pt pcs i)) = A14 at *
  have hx4 := hx.trans hx3
  have hn3 := (hf.ext hx4).el i hlt
  ((try simp only [andThen, endBlock, if_true]); repeat (first | with_reducible refine W.seq ?_ | with_reducible refine W.block ?_ | (refine W.region (by rfl) ?_; (repeat (first | (refine OpsW.step rfl ?_; simp [opV, hld, IntSl.len hn3 (P := Tryz.prog) Tryz.underlying36]; done) | (refine OpsW.step rfl ?_; simp [opV, hld, IntSl.len hn3 (P := Tryz.prog) Tryz.underlying36]) | (refine OpsW.step ?_ ?_; (focus (simp [wantedA, hld, IntSl.len hn3 (P := Tryz.prog) Tryz.underlying36]; done)); simp [opV, hld, IntSl.len hn3 (P := Tryz.prog) Tryz.underlying36]) | (refine OpsW.un ?_ ?_; (focus (simp [wantedA, hld, IntSl.len hn3 (P := Tryz.prog) Tryz.underlying36]; done))))); (refine OpsW.nil ?_; try simp only [andThen, endBlock]))))
  have hcl : ∀ j, j ≤ (Ab.lx nx i).length → (cat I ((Ab.lx nx i).take j)).length ≤ 8192 := fun j hj => by
    have h1 := cat_length I ((Ab.lx nx i).take j)
    have h2 := hsm.2 i hlt
    rw [List.length_take] at h1
    have h3 : min j (Ab.lx nx i).length * 1024 ≤ 8 * 1024 := Nat.mul_le_mul_right _ (by omega)
    omega
  refine W.mono (Q := DuOut ⟨A12, A.next, p, gv, kv, x, y, nx⟩ I A14 i) ?_ ?_
  · refine W.loop ?_
    refine LW.induct (DuInv2 ⟨A12, A.next, p, gv, kv, x, y, nx⟩ I (vx pcs (i * 3 + 2)) A14 i) ?_ _ _ A14 ⟨0, .nilslice, rfl, Nat.zero_le _, ⟨by simp [e1], by simp [e2], by simp [e3], by simp [e7], by simp [e8], by simp [e101], by simp [e102], by simp [e103], hx4⟩, by simp, by simp, by simp, by simp, by simp, .inl ⟨rfl, by simp [cat]⟩, Ext.refl _⟩
    clear e1 e2 e3 e7 e8 e101 e102 e103
    rintro m e A15 ⟨j, w, rfl, hj, s, e14, e16, e109, e110, e111, hown, hext⟩
    obtain ⟨e1, e2, e3, e7, e8, e101, e102, e103, hx5⟩ := s
    simp only at e1 e2 e3 e7 e8 e101 e102 e103 hx5 hj
    ((try simp only [andThen, endBlock, if_true]); repeat (first | with_reducible refine W.seq ?_ | with_reducible refine W.block ?_ | (refine W.region (by rfl) ?_; (repeat (first | (refine OpsW.step rfl ?_; simp [opV, e110, e111]; done) | (refine OpsW.step rfl ?_; simp [opV, e110, e111]) | (refine OpsW.step ?_ ?_; (focus (simp [wantedA, e110, e111]; done)); simp [opV, e110, e111]) | (refine OpsW.un ?_ ?_; (focus (simp [wantedA, e110, e111]; done))))); (refine OpsW.nil ?_; try simp only [andThen, endBlock]))))
    by_cases hjt : j < (Ab.lx nx i).length
    rotate_left
    · (refine W.cond false ?_ ?_; (focus (simp [hjt]; done)); simp only [Bool.false_eq_true, if_false])
      (refine W.exit ?_; try simp only [andThen, endBlock, if_true])
      rw [List.take_of_length_le (by show (Ab.lx nx i).length ≤ j; omega)] at hown
      exact ⟨rfl, w, ⟨by simp [e1], by simp [e2], by simp [e3], by simp [e7], by simp [e8], by simp [e101], by simp [e102], by simp [e103], hx5⟩, by simp [e14], by simp [e16], hown, hext⟩
    (refine W.cond true ?_ ?_; (focus (simp [hjt]; done)); simp only [if_true])
    (refine W.skip ?_; try simp only [andThen, endBlock])
    obtain ⟨q, hq⟩ : ∃ q, q = (ix (Ab.lx nx i) j).toNat := ⟨_, rfl⟩
    have hmem := hv.2.2.2 i hlt _ (ix_mem hjt)
    have hqx : ix (Ab.lx nx i) j = (q : Int) := by omega
    have hqn : q < nx.length := by omega
    have hql : q < (rows nx.length I).length := by rw [rows_length]; exact hqn
    have hnA := hn3.ext hext
    have lxA := lx.ext hx5
    have hel := lxA.el q hql
    rw [lx_rows I hqn] at hel
    have h9 := hcl j hj
    have h8 := lst_length (I q)
    obtain ⟨w', A16, happ, hown', hext'⟩ := append_ints hown hext hel.1 (by simp only at h9 ⊢; omega)
    refine W.seq ?_
    refine W.block ?_
    refine W.seq ?_
    (refine W.region (by rfl) ?_; (repeat (first | (refine OpsW.step rfl ?_; simp [opV, e109, e111, IntSl.idx hnA Tryz.underlying36 Tryz.sz3 hjt, IntSl.load hnA Tryz.sh3 hjt, hqx]; done) | (refine OpsW.step rfl ?_; simp [opV, e109, e111, IntSl.idx hnA Tryz.underlying36 Tryz.sz3 hjt, IntSl.load hnA Tryz.sh3 hjt, hqx]) | (refine OpsW.step ?_ ?_; (focus (simp [wantedA, e109, e111, IntSl.idx hnA Tryz.underlying36 Tryz.sz3 hjt, IntSl.load hnA Tryz.sh3 hjt, hqx]; done)); simp [opV, e109, e111, IntSl.idx hnA Tryz.underlying36 Tryz.sz3 hjt, IntSl.load hnA Tryz.sh3 hjt, hqx]) | (refine OpsW.un ?_ ?_; (focus (simp [wantedA, e109, e111, IntSl.idx hnA Tryz.underlying36 Tryz.sz3 hjt, IntSl.load hnA Tryz.sh3 hjt, hqx]; done))))); (refine OpsW.nil ?_; try simp only [andThen, endBlock]))
    ((try simp only [andThen, endBlock, if_true]); repeat (first | with_reducible refine W.seq ?_ | with_reducible refine W.block ?_ | (refine W.region (by rfl) ?_; (repeat (first | (refine OpsW.step rfl ?_; simp [opV, e7, e16, LL.idx lxA Tryz.underlying25 Tryz.sz36 hql, LL.load lxA Tryz.sh36 hql, opA_append, happ]; done) | (refine OpsW.step rfl ?_; simp [opV, e7, e16, LL.idx lxA Tryz.underlying25 Tryz.sz36 hql, LL.load lxA Tryz.sh36 hql, opA_append, happ]) | (refine OpsW.step ?_ ?_; (focus (simp [wantedA, e7, e16, LL.idx lxA Tryz.underlying25 Tryz.sz36 hql, LL.load lxA Tryz.sh36 hql, opA_append, happ]; done)); simp [opV, e7, e16, LL.idx lxA Tryz.underlying25 Tryz.sz36 hql, LL.load lxA Tryz.sh36 hql, opA_append, happ]) | (refine OpsW.un ?_ ?_; (focus (simp [wantedA, e7, e16, LL.idx lxA Tryz.underlying25 Tryz.sz36 hql, LL.load lxA Tryz.sh36 hql, opA_append, happ]; done))))); (refine OpsW.nil ?_; try simp only [andThen, endBlock]))))
    ((try simp only [andThen, endBlock, if_true]); repeat (first | with_reducible refine W.seq ?_ | with_reducible refine W.block ?_ | (refine W.region (by rfl) ?_; (repeat (first | (refine OpsW.step rfl ?_; simp [opV, e111]; done) | (refine OpsW.step rfl ?_; simp [opV, e111]) | (refine OpsW.step ?_ ?_; (focus (simp [wantedA, e111]; done)); simp [opV, e111]) | (refine OpsW.un ?_ ?_; (focus (simp [wantedA, e111]; done))))); (refine OpsW.nil ?_; try simp only [andThen, endBlock]))))
    refine ⟨_, show (Ab.lx nx i).length - (j + 1) < (Ab.lx nx i).length - j by omega, j + 1, w', rfl, show j + 1 ≤ (Ab.lx nx i).length by omega, ⟨by simp [e1], by simp [e2], by simp [e3], by simp [e7], by simp [e8], by simp [e101], by simp [e102], by simp [e103], hx4.trans hext'⟩, by simp [e14], by simp, by simp [e109], by simp [e110], by simp [wrap_succ hjt hn3.2], ?_, hext'⟩
    show OwnI A14 A16 w' (cat I ((Ab.lx nx i).take (j + 1)))
    rw [cat_take hjt, hqx, Int.toNat_natCast]
    exact hown'
  clear e1 e2 e3 e7 e8 e101 e102 e103
  rintro x' e A15 ⟨rfl, w, s, e14, e16, hown, hext⟩
  obtain ⟨e1, e2, e3, e7, e8, e101, e102, e103, hx5⟩ := s
  simp only at e1 e2 e3 e7 e8 e101 e102 e103 hx5 hown
  have h9 := hcl (Ab.lx nx i).length (Nat.le_refl _)
  rw [List.take_length] at h9
  simp only [andThen, endBlock, if_true]
  refine W.seq ?_
  (refine W.region (by rfl) ?_; (repeat (first | (refine OpsW.step rfl ?_; simp [opV, e16]; done) | (refine OpsW.step rfl ?_; simp [opV, e16]) | (refine OpsW.step ?_ ?_; (focus (simp [wantedA, e16]; done)); simp [opV, e16]) | (refine OpsW.un ?_ ?_; (focus (simp [wantedA, e16]; done))))))
  (refine FnW.mono (sort_own A14 A15 w _ hown hext (by omega)) ?_; rintro _ A16 ⟨rfl, hown2, hext2⟩)
  (repeat (first | (refine OpsW.step rfl ?_; simp [opV]; done) | (refine OpsW.step rfl ?_; simp [opV]) | (refine OpsW.step ?_ ?_; (focus (simp [wantedA]; done)); simp [opV]) | (refine OpsW.un ?_ ?_; (focus (simp [wantedA]; done)))))
  (refine OpsW.nil ?_; try simp only [andThen, endBlock])
  obtain ⟨u1, A17, c1, ⟨r, hr, hrp, hrm⟩, hext3⟩ := compact_own A14 A16 w _ hown2 hext2 (by rw [srt_length]; omega) (srt_sorted _)
  have hre := dual_eq hv hleast hlt hrp hrm
  subst hre
  have hx6 := hx4.trans hext2
  have hx7 := hx4.trans hext3
  have hxl : i < (rows nx.length I).length := by rw [rows_length]; exact hlt
  have hyl : i < (rows nx.length O).length := by rw [rows_length]; exact hlt
  have hgi : i < gs.length := by omega
  have hki : i < ks.length := by omega
  have ly6 := ly.ext hx6
  have ly7 := ly.ext hx7
  have hg7 := hg.ext hx7
  have hk7 := hk.ext hx7
  have lx7 := lx.ext hx7
  have hout := ly7.el i hyl
  rw [lx_rows O hlt] at hout
  obtain ⟨b2, A18, c2, ⟨t, rfl, ht⟩, rfl⟩ := equal_spec A17 u1 (vx ys i) _ _ hr hout
  have htt := ht.2 rfl
  subst htt
  have hOlt := Ab.Least.lt hleast (fun a ha => bitsOf_lt (hsg.2 a (by omega))) i hlt
  obtain ⟨u2, A19, c3, hu2, hext4, _⟩ := through_spec A17 (vx ys i) (vx gvs i) (vx kvs i) (O i) (GK gs i) (GK ks i) ⟨hout, hOlt⟩ (setV_gk hg7 hsg hlt) (setV_gk hk7 hsk hlt)
  have hx8 := hx7.trans hext4
  have lx8 := lx.ext hx8
  have hin := lx8.el i hxl
  rw [lx_rows I hlt] at hin
  obtain ⟨b4, A20, c4, ⟨t, rfl, ht4⟩, rfl⟩ := equal_spec A19 u2 (vx xs i) _ _ hu2.1 hin
  have hIi : I i = thr (O i) (GK gs i) (GK ks i) := hleast.1.1 i hlt
  have htt := ht4.2 (by rw [hIi])
  subst htt
  have q1 := intSl_eq hout
  have q2 := intSl_eq hin
  refine W.seq ?_
  (refine W.drawnB mixedP (selfE_ok (g := 16) (selfC_ok c3 (selfC_ok c1 self0_ok))) [(0, 0), (1, 0), (2, 0), (3, 0), (4, 0), (5, 1), (6, 0), (7, 0), (8, 0), (9, 0), (10, 0), (11, 0), (12, 0), (13, 0), (14, 0), (15, 0), (16, 0), (17, 0), (18, 0), (19, 0), (20, 0), (21, 0), (22, 0), (23, 0), (24, 0), (25, 1), (26, 0), (27, 0), (28, 0)] (by rfl) (by kernel_rfl) ?_; (repeat (first | (refine RB.step rfl rfl ?_; simp [stepB, cls, e16, e8, e14, e1, e2, e7, LL.idx ly7 Tryz.underlying25 Tryz.sz36 hyl, LL.idx hg7 Tryz.underlying25 Tryz.sz36 hgi, LL.idx hk7 Tryz.underlying25 Tryz.sz36 hki, LL.idx lx7 Tryz.underlying25 Tryz.sz36 hxl, LL.load ly6 Tryz.sh36 hyl, LL.load ly7 Tryz.sh36 hyl, LL.load hg7 Tryz.sh36 hgi, LL.load hk7 Tryz.sh36 hki, LL.load lx7 Tryz.sh36 hxl, LL.load lx8 Tryz.sh36 hxl, selfE_call c2, selfE_call c4, selfE_other, selfC_other, q1, q2, opA_callf, selfC_call]) | (refine RB.step rfl ?_ ?_; (focus (simp [wantedA, e16, e8, e14, e1, e2, e7, LL.idx ly7 Tryz.underlying25 Tryz.sz36 hyl, LL.idx hg7 Tryz.underlying25 Tryz.sz36 hgi, LL.idx hk7 Tryz.underlying25 Tryz.sz36 hki, LL.idx lx7 Tryz.underlying25 Tryz.sz36 hxl, LL.load ly6 Tryz.sh36 hyl, LL.load ly7 Tryz.sh36 hyl, LL.load hg7 Tryz.sh36 hgi, LL.load hk7 Tryz.sh36 hki, LL.load lx7 Tryz.sh36 hxl, LL.load lx8 Tryz.sh36 hxl, selfE_call c2, selfE_call c4, selfE_other, selfC_other, q1, q2, opA_callf, selfC_call]; done)); simp [stepB, cls, e16, e8, e14, e1, e2, e7, LL.idx ly7 Tryz.underlying25 Tryz.sz36 hyl, LL.idx hg7 Tryz.underlying25 Tryz.sz36 hgi, LL.idx hk7 Tryz.underlying25 Tryz.sz36 hki, LL.idx lx7 Tryz.underlying25 Tryz.sz36 hxl, LL.load ly6 Tryz.sh36 hyl, LL.load ly7 Tryz.sh36 hyl, LL.load hg7 Tryz.sh36 hgi, LL.load hk7 Tryz.sh36 hki, LL.load lx7 Tryz.sh36 hxl, LL.load lx8 Tryz.sh36 hxl, selfE_call c2, selfE_call c4, selfE_other, selfC_other, q1, q2, opA_callf, selfC_call]) | (refine RB.un rfl ?_ ?_ ?_; (focus (simp [wantedA, e16, e8, e14, e1, e2, e7, LL.idx ly7 Tryz.underlying25 Tryz.sz36 hyl, LL.idx hg7 Tryz.underlying25 Tryz.sz36 hgi, LL.idx hk7 Tryz.underlying25 Tryz.sz36 hki, LL.idx lx7 Tryz.underlying25 Tryz.sz36 hxl, LL.load ly6 Tryz.sh36 hyl, LL.load ly7 Tryz.sh36 hyl, LL.load hg7 Tryz.sh36 hgi, LL.load hk7 Tryz.sh36 hki, LL.load lx7 Tryz.sh36 hxl, LL.load lx8 Tryz.sh36 hxl, selfE_call c2, selfE_call c4, selfE_other, selfC_other, q1, q2, opA_callf, selfC_call]; done)); (focus (simp [cls]; done))) | (refine RB.unH rfl ?_ ?_ ?_; (focus (simp [wantedA, e16, e8, e14, e1, e2, e7, LL.idx ly7 Tryz.underlying25 Tryz.sz36 hyl, LL.idx hg7 Tryz.underlying25 Tryz.sz36 hgi, LL.idx hk7 Tryz.underlying25 Tryz.sz36 hki, LL.idx lx7 Tryz.underlying25 Tryz.sz36 hxl, LL.load ly6 Tryz.sh36 hyl, LL.load ly7 Tryz.sh36 hyl, LL.load hg7 Tryz.sh36 hgi, LL.load hk7 Tryz.sh36 hki, LL.load lx7 Tryz.sh36 hxl, LL.load lx8 Tryz.sh36 hxl, selfE_call c2, selfE_call c4, selfE_other, selfC_other, q1, q2, opA_callf, selfC_call]; done)); (focus (simp [cls]; done))))); refine RB.nil ?_; try simp only [andThen, endBlock])
  (refine W.cond false ?_ ?_; (focus (simp; done)); simp only [Bool.false_eq_true, if_false])
  (refine W.skip ?_; try simp only [andThen, endBlock])
  ((try simp only [andThen, endBlock, if_true]); repeat (first | with_reducible refine W.seq ?_ | with_reducible refine W.block ?_ | (refine W.region (by rfl) ?_; (repeat (first | (refine OpsW.step rfl ?_; simp [opV, e103]; done) | (refine OpsW.step rfl ?_; simp [opV, e103]) | (refine OpsW.step ?_ ?_; (focus (simp [wantedA, e103]; done)); simp [opV, e103]) | (refine OpsW.un ?_ ?_; (focus (simp [wantedA, e103]; done))))); (refine OpsW.nil ?_; try simp only [andThen, endBlock]))))
  exact ⟨_, show nx.length - (i + 1) < nx.length - i by omega, i + 1, rfl, show i + 1 ≤ nx.length by omega, by simp [e1], by simp [e2], by simp [e3], by simp [e7], by simp [e8], by simp [e101], by simp [e102], by simp [wrap_succ hlt h.le], hx8⟩
end Go.Proofs

/-! DataflowDuals: the run, on every world that holds its arguments. -/
namespace Go.Proofs
open Go Go.Ab
theorem Tryz.awake_ext (A : AH) : FnW Tryz.prog 5 [] A fun v A' => v = .bool true ∧ Ext A A' :=
  (Tryz.awake A).mono fun v A' ⟨h1, h2⟩ => ⟨h1, by subst h2; exact ⟨Nat.le_add_right _ _, fun _ _ => rfl⟩⟩

theorem Tryz.run4 {W : World} {v gv kv : Value} {n : Nat} {V : Nat → Value} {X Y : Nat → Int} {U : Nat → Value} {L : Nat → List Int} {n' : Nat} {V' : Nat → Value} {L' : Nat → List Int} {m : Nat} {V'' : Nat → Value} {L'' : Nat → List Int}
    (hn : n ≤ Most) (hs : WSl W v n 3 V) (h0 : ∀ i, i < n → V (i * 3) = .int .i64 (X i)) (h1 : ∀ i, i < n → V (i * 3 + 1) = .int .i64 (Y i)) (h2 : ∀ i, i < n → V (i * 3 + 2) = U i) (ho : ∀ i, i < n → (U i).oneCell' = true) (hr : ∀ i, i < n → WInts W (U i) (L i))
    (hn' : n' ≤ Most) (hs' : WSl W gv n' 1 V') (ho' : ∀ i, i < n' → (V' i).oneCell' = true) (hr' : ∀ i, i < n' → WInts W (V' i) (L' i))
    (hm : m ≤ Most) (hs'' : WSl W kv m 1 V'') (ho'' : ∀ i, i < m → (V'' i).oneCell' = true) (hr'' : ∀ i, i < m → WInts W (V'' i) (L'' i)) (hv : v.oneCell' = true) :
    Calls Tryz.prog 4 #[.agg #[v], gv, kv] W fun e W' => e = .returned (.bool true) ∧ RowKit.Below W.heap.size W W' := by
  obtain ⟨A1, ρ1, p, pcs, t1, e1, f1⟩ := (Rd.empty W).flow hn hs h0 h1 h2 ho hr
  obtain ⟨A2, ρ2, g, gvs, t2, e2, f2⟩ := t1.rd.lists hn' hs' ho' hr'
  obtain ⟨A3, ρ3, k, kvs, t3, e3, f3⟩ := t2.rd.lists hm hs'' ho'' hr''
  obtain ⟨u, A', hok, rfl, _⟩ := law4_spec Tryz.awake_ext A3 p g k _ _ _ pcs gvs kvs (f1.ext (t2.ext.trans t3.ext)) (f2.ext t3.ext) f3
  obtain ⟨_, _, hrun⟩ := hok _ _ rfl
  have hag : VR ρ3 (.agg [p]) (.agg #[v]) := ⟨#[v], rfl, ⟨VR.mono t3.le _ _ (VR.mono t2.le _ _ e1), trivial⟩, fun x hx => by simp at hx; subst hx; exact hv⟩
  refine (hrun ρ3 W #[.agg #[v], gv, kv] t3.rd.hr ⟨hag, VR.mono t3.le _ _ e2, e3, trivial⟩ (fun β h1 _ => t3.rd.free β h1)).mono ?_
  rintro e W' ⟨val, ρ', rfl, hval, hst⟩
  have hval : val = .bool true := hval
  subst hval
  exact ⟨rfl, hst.os, hst.tape, hst.output, hst.size, fun b hb => hst.same b hb fun β x l h1 h2 _ => absurd h2 (by rw [t3.rd.dead β x h1]; decide)⟩
end Go.Proofs
