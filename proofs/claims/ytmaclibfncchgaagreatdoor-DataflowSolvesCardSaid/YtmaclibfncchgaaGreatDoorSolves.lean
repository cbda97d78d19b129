import Derived.Test.YtmaclibfncchgaaGreatDoorOurB
import Derived.Test.YtmaclibfncchgaaGreatDoorS54
import Derived.Test.YtmaclibfncchgaaGreatDoorEvE
set_option linter.all false
/-! DataflowSolves: the body. -/
namespace Go.Proofs
open Go Go.Ab
variable [LoopTab]
theorem law3_spec (haw : ∀ A, FnW Tryz.prog 5 [] A fun v A' => v = .bool true ∧ Ext A A') (A : AH) (p gv kv : AV) (nx gs ks : List (List Int)) (pcs gvs kvs : List AV) (fwd : Bool) (h : Fl A p nx pcs) (hg : LL A gv gs gvs) (hk : LL A kv ks kvs) : FnW Tryz.prog 3 [.agg [p], .bool fwd, gv, kv] A fun u A' => u = .bool true ∧ Ext A A' := by
  refine FnW.body Tryz.func3 (by decide) rfl Tryz.ntmps3 ?_
  generalize hE : bindArgs _ 0 _ = E
  have a0 := (congrArg (fun e => En.get e 0) hE).symm
  simp [bindArgs, kept, En.get_bind] at a0
  have a1 := (congrArg (fun e => En.get e 1) hE).symm
  simp [bindArgs, kept, En.get_bind] at a1
  have a2 := (congrArg (fun e => En.get e 2) hE).symm
  simp [bindArgs, kept, En.get_bind] at a2
  have a3 := (congrArg (fun e => En.get e 3) hE).symm
  simp [bindArgs, kept, En.get_bind] at a3
  clear hE
  refine W.seq ?_
  (refine W.region (by rfl) ?_; (repeat (first | (refine OpsW.step rfl ?_; simp [opV, a0]; done) | (refine OpsW.step rfl ?_; simp [opV, a0]) | (refine OpsW.step ?_ ?_; (focus (simp [wantedA, a0]; done)); simp [opV, a0]) | (refine OpsW.un ?_ ?_; (focus (simp [wantedA, a0]; done))))); (refine OpsW.nil ?_; try simp only [andThen, endBlock]))
  have hb := Box.new A p
  have hx := Ext.box A (.cells [p])
  have hf := h.ext hx
  generalize A.push (.cells [p]) = B at *
  refine W.seq ?_
  refine W.seq ?_
  (refine W.region (by rfl) ?_; (repeat (first | (refine OpsW.step rfl ?_; simp [opV]; done) | (refine OpsW.step rfl ?_; simp [opV]) | (refine OpsW.step ?_ ?_; (focus (simp [wantedA]; done)); simp [opV]) | (refine OpsW.un ?_ ?_; (focus (simp [wantedA]; done))))))
  (refine FnW.mono (haw B) ?_; rintro _ A1 ⟨rfl, hx1⟩)
  (repeat (first | (refine OpsW.step rfl ?_; simp [opV]; done) | (refine OpsW.step rfl ?_; simp [opV]) | (refine OpsW.step ?_ ?_; (focus (simp [wantedA]; done)); simp [opV]) | (refine OpsW.un ?_ ?_; (focus (simp [wantedA]; done)))))
  (refine OpsW.nil ?_; try simp only [andThen, endBlock])
  (refine W.cond false ?_ ?_; (focus (simp; done)); simp only [Bool.false_eq_true, if_false])
  (refine W.skip ?_; try simp only [andThen, endBlock])
  have hb1 := hb.ext hx1
  have hf1 := hf.ext hx1
  have hg1 := (hg.ext hx).ext hx1
  have hk1 := (hk.ext hx).ext hx1
  have hx01 := hx.trans hx1
  clear hb hf hg hk hx hx1
  refine W.seq ?_
  refine W.seq ?_
  (refine W.region (by rfl) ?_; (repeat (first | (refine OpsW.step rfl ?_; simp [opV, box_whole hb1.get Tryz.sh24]; done) | (refine OpsW.step rfl ?_; simp [opV, box_whole hb1.get Tryz.sh24]) | (refine OpsW.step ?_ ?_; (focus (simp [wantedA, box_whole hb1.get Tryz.sh24]; done)); simp [opV, box_whole hb1.get Tryz.sh24]) | (refine OpsW.un ?_ ?_; (focus (simp [wantedA, box_whole hb1.get Tryz.sh24]; done))))))
  (refine FnW.mono (small_spec A1 p nx pcs 14 hf1) ?_; rintro _ A2 ⟨⟨t, rfl, ht⟩, hx2⟩)
  have hb2 := hb1.ext hx2
  have hf2 := hf1.ext hx2
  have hg2 := hg1.ext hx2
  have hk2 := hk1.ext hx2
  have hx02 := hx01.trans hx2
  clear hb1 hf1 hg1 hk1 hx01 hx2
  cases t with
  | false =>
    (repeat (first | (refine OpsW.step rfl ?_; simp [opV]; done) | (refine OpsW.step rfl ?_; simp [opV]) | (refine OpsW.step ?_ ?_; (focus (simp [wantedA]; done)); simp [opV]) | (refine OpsW.un ?_ ?_; (focus (simp [wantedA]; done)))))
    (refine OpsW.nil ?_; try simp only [andThen, endBlock])
    (refine W.cond true ?_ ?_; (focus (simp; done)); simp only [if_true])
    ((try simp only [andThen, endBlock, if_true]); repeat (first | with_reducible refine W.seq ?_ | with_reducible refine W.block ?_ | (refine W.region (by rfl) ?_; (repeat (first | (refine OpsW.step rfl ?_; simp [opV]; done) | (refine OpsW.step rfl ?_; simp [opV]) | (refine OpsW.step ?_ ?_; (focus (simp [wantedA]; done)); simp [opV]) | (refine OpsW.un ?_ ?_; (focus (simp [wantedA]; done))))); (refine OpsW.nil ?_; try simp only [andThen, endBlock]))))
    (refine W.ret ?_; try simp only [andThen, endBlock])
    refine ⟨.inr rfl, [.bool true], by simp [Tryz.f3, resultsA, resultA], ?_⟩
    exact ⟨rfl, hx02⟩
  | true =>
  have hsm := ht.1 rfl
  by_cases c1 : (20 : Int) < gs.length
  · (repeat (first | (refine OpsW.step rfl ?_; simp [opV, a2, LL.len hg2 (P := Tryz.prog) Tryz.underlying25, c1]; done) | (refine OpsW.step rfl ?_; simp [opV, a2, LL.len hg2 (P := Tryz.prog) Tryz.underlying25, c1]) | (refine OpsW.step ?_ ?_; (focus (simp [wantedA, a2, LL.len hg2 (P := Tryz.prog) Tryz.underlying25, c1]; done)); simp [opV, a2, LL.len hg2 (P := Tryz.prog) Tryz.underlying25, c1]) | (refine OpsW.un ?_ ?_; (focus (simp [wantedA, a2, LL.len hg2 (P := Tryz.prog) Tryz.underlying25, c1]; done)))))
    (refine OpsW.nil ?_; try simp only [andThen, endBlock])
    (refine W.cond true ?_ ?_; (focus (simp; done)); simp only [if_true])
    ((try simp only [andThen, endBlock, if_true]); repeat (first | with_reducible refine W.seq ?_ | with_reducible refine W.block ?_ | (refine W.region (by rfl) ?_; (repeat (first | (refine OpsW.step rfl ?_; simp [opV]; done) | (refine OpsW.step rfl ?_; simp [opV]) | (refine OpsW.step ?_ ?_; (focus (simp [wantedA]; done)); simp [opV]) | (refine OpsW.un ?_ ?_; (focus (simp [wantedA]; done))))); (refine OpsW.nil ?_; try simp only [andThen, endBlock]))))
    (refine W.ret ?_; try simp only [andThen, endBlock])
    refine ⟨.inr rfl, [.bool true], by simp [Tryz.f3, resultsA, resultA], ?_⟩
    exact ⟨rfl, hx02⟩
  by_cases c2 : (20 : Int) < ks.length
  · (repeat (first | (refine OpsW.step rfl ?_; simp [opV, a2, a3, LL.len hg2 (P := Tryz.prog) Tryz.underlying25, c1, LL.len hk2 (P := Tryz.prog) Tryz.underlying25, c2]; done) | (refine OpsW.step rfl ?_; simp [opV, a2, a3, LL.len hg2 (P := Tryz.prog) Tryz.underlying25, c1, LL.len hk2 (P := Tryz.prog) Tryz.underlying25, c2]) | (refine OpsW.step ?_ ?_; (focus (simp [wantedA, a2, a3, LL.len hg2 (P := Tryz.prog) Tryz.underlying25, c1, LL.len hk2 (P := Tryz.prog) Tryz.underlying25, c2]; done)); simp [opV, a2, a3, LL.len hg2 (P := Tryz.prog) Tryz.underlying25, c1, LL.len hk2 (P := Tryz.prog) Tryz.underlying25, c2]) | (refine OpsW.un ?_ ?_; (focus (simp [wantedA, a2, a3, LL.len hg2 (P := Tryz.prog) Tryz.underlying25, c1, LL.len hk2 (P := Tryz.prog) Tryz.underlying25, c2]; done)))))
    (refine OpsW.nil ?_; try simp only [andThen, endBlock])
    (refine W.cond true ?_ ?_; (focus (simp; done)); simp only [if_true])
    ((try simp only [andThen, endBlock, if_true]); repeat (first | with_reducible refine W.seq ?_ | with_reducible refine W.block ?_ | (refine W.region (by rfl) ?_; (repeat (first | (refine OpsW.step rfl ?_; simp [opV]; done) | (refine OpsW.step rfl ?_; simp [opV]) | (refine OpsW.step ?_ ?_; (focus (simp [wantedA]; done)); simp [opV]) | (refine OpsW.un ?_ ?_; (focus (simp [wantedA]; done))))); (refine OpsW.nil ?_; try simp only [andThen, endBlock]))))
    (refine W.ret ?_; try simp only [andThen, endBlock])
    refine ⟨.inr rfl, [.bool true], by simp [Tryz.f3, resultsA, resultA], ?_⟩
    exact ⟨rfl, hx02⟩
  (repeat (first | (refine OpsW.step rfl ?_; simp [opV, a2, a3, LL.len hg2 (P := Tryz.prog) Tryz.underlying25, c1, LL.len hk2 (P := Tryz.prog) Tryz.underlying25, c2]; done) | (refine OpsW.step rfl ?_; simp [opV, a2, a3, LL.len hg2 (P := Tryz.prog) Tryz.underlying25, c1, LL.len hk2 (P := Tryz.prog) Tryz.underlying25, c2]) | (refine OpsW.step ?_ ?_; (focus (simp [wantedA, a2, a3, LL.len hg2 (P := Tryz.prog) Tryz.underlying25, c1, LL.len hk2 (P := Tryz.prog) Tryz.underlying25, c2]; done)); simp [opV, a2, a3, LL.len hg2 (P := Tryz.prog) Tryz.underlying25, c1, LL.len hk2 (P := Tryz.prog) Tryz.underlying25, c2]) | (refine OpsW.un ?_ ?_; (focus (simp [wantedA, a2, a3, LL.len hg2 (P := Tryz.prog) Tryz.underlying25, c1, LL.len hk2 (P := Tryz.prog) Tryz.underlying25, c2]; done)))))
  (refine OpsW.nil ?_; try simp only [andThen, endBlock])
  (refine W.cond false ?_ ?_; (focus (simp; done)); simp only [Bool.false_eq_true, if_false])
  (refine W.skip ?_; try simp only [andThen, endBlock])
  refine W.seq ?_
  (refine W.region (by rfl) ?_; (repeat (first | (refine OpsW.step rfl ?_; simp [opV, box_whole hb2.get Tryz.sh24, a1, a2, a3]; done) | (refine OpsW.step rfl ?_; simp [opV, box_whole hb2.get Tryz.sh24, a1, a2, a3]) | (refine OpsW.step ?_ ?_; (focus (simp [wantedA, box_whole hb2.get Tryz.sh24, a1, a2, a3]; done)); simp [opV, box_whole hb2.get Tryz.sh24, a1, a2, a3]) | (refine OpsW.un ?_ ?_; (focus (simp [wantedA, box_whole hb2.get Tryz.sh24, a1, a2, a3]; done))))))
  (refine FnW.mono (psolve_spec A2 p gv kv nx gs ks pcs gvs kvs fwd hf2 hg2 hk2 (by have := hsm.1; omega) (fun i hi => by have := hsm.2 i hi; omega)) ?_; rintro u1 A3 ⟨h1, hx3⟩)
  have hb3 := hb2.ext hx3
  obtain ⟨y1, z1, n1, rfl, hn1⟩ : ∃ x y n, u1 = .tup [x, y, IV n] ∧ (n = 0 ∨ n = 1) := by
    rcases h1 with ⟨_, x, y, rfl, _⟩ | ⟨_, x, y, _, _, _, _, rfl, _⟩
    · exact ⟨x, y, 1, rfl, .inr rfl⟩
    · exact ⟨x, y, 0, rfl, .inl rfl⟩
  (repeat (first | (refine OpsW.step rfl ?_; simp [opV]; done) | (refine OpsW.step rfl ?_; simp [opV]) | (refine OpsW.step ?_ ?_; (focus (simp [wantedA]; done)); simp [opV]) | (refine OpsW.un ?_ ?_; (focus (simp [wantedA]; done)))))
  (refine OpsW.nil ?_; try simp only [andThen, endBlock])
  refine W.seq ?_
  (refine W.region (by rfl) ?_; (repeat (first | (refine OpsW.step rfl ?_; simp [opV, box_whole hb3.get Tryz.sh24, a1, a2, a3]; done) | (refine OpsW.step rfl ?_; simp [opV, box_whole hb3.get Tryz.sh24, a1, a2, a3]) | (refine OpsW.step ?_ ?_; (focus (simp [wantedA, box_whole hb3.get Tryz.sh24, a1, a2, a3]; done)); simp [opV, box_whole hb3.get Tryz.sh24, a1, a2, a3]) | (refine OpsW.un ?_ ?_; (focus (simp [wantedA, box_whole hb3.get Tryz.sh24, a1, a2, a3]; done))))))
  (refine FnW.mono (refsolve_spec A3 p gv kv nx gs ks pcs gvs kvs fwd (hf2.ext hx3) (hg2.ext hx3) (hk2.ext hx3)) ?_; rintro u2 A4 ⟨h2, hx4⟩)
  have hfin : ∃ y2 z2, u2 = .tup [y2, z2, IV n1] ∧ ∃ l1 l2 v1 v2 w1 w2, LL A4 y1 l1 v1 ∧ LL A4 z1 l2 v2 ∧ LL A4 y2 l1 w1 ∧ LL A4 z2 l2 w2 := by
    rcases h1 with ⟨hn, x, y, he, g1, g2⟩ | ⟨hy, x, y, I, O, xs, ys, he, g1, g2, g3⟩
    · obtain ⟨rfl, rfl, e3⟩ : y1 = x ∧ z1 = y ∧ IV n1 = IV 1 := by simpa using he
      rcases h2 with ⟨_, x', y', rfl, k1, k2⟩ | ⟨hy, _⟩
      · exact ⟨x', y', by rw [e3], [], [], [], [], [], [], g1.ext hx4, g2.ext hx4, k1, k2⟩
      · exact absurd hy hn
    · obtain ⟨rfl, rfl, e3⟩ : y1 = x ∧ z1 = y ∧ IV n1 = IV 0 := by simpa using he
      rcases h2 with ⟨hn, _⟩ | ⟨_, x', y', I', O', xs', ys', rfl, k1, k2, k3⟩
      · exact absurd hy hn
      · have hu := g3.unique k3
        have hI : rows nx.length I' = rows nx.length I := rows_congr fun a ha => by
          have := hu a ha
          cases fwd
          · exact this.2.symm
          · exact this.1.symm
        have hO : rows nx.length O' = rows nx.length O := rows_congr fun a ha => by
          have := hu a ha
          cases fwd
          · exact this.1.symm
          · exact this.2.symm
        rw [hI] at k1
        rw [hO] at k2
        exact ⟨x', y', by rw [e3], _, _, _, _, _, _, g1.ext hx4, g2.ext hx4, k1, k2⟩
  obtain ⟨y2, z2, rfl, l1, l2, v1, v2, w1, w2, q1, q2, q3, q4⟩ := hfin
  (repeat (first | (refine OpsW.step rfl ?_; simp [opV]; done) | (refine OpsW.step rfl ?_; simp [opV]) | (refine OpsW.step ?_ ?_; (focus (simp [wantedA]; done)); simp [opV]) | (refine OpsW.un ?_ ?_; (focus (simp [wantedA]; done)))))
  (refine OpsW.nil ?_; try simp only [andThen, endBlock])
  refine W.seq ?_
  (refine W.region (by rfl) ?_; (repeat (first | (refine OpsW.step rfl ?_; simp [opV]; done) | (refine OpsW.step rfl ?_; simp [opV]) | (refine OpsW.step ?_ ?_; (focus (simp [wantedA]; done)); simp [opV]) | (refine OpsW.un ?_ ?_; (focus (simp [wantedA]; done))))))
  (refine FnW.mono (lists_spec A4 y1 y2 l1 l1 v1 w1 q1 q3) ?_; rintro _ A5 ⟨⟨t, rfl, ht'⟩, hA⟩)
  subst hA
  have := ht'.2 rfl
  subst this
  (repeat (first | (refine OpsW.step rfl ?_; simp [opV]; done) | (refine OpsW.step rfl ?_; simp [opV]) | (refine OpsW.step ?_ ?_; (focus (simp [wantedA]; done)); simp [opV]) | (refine OpsW.un ?_ ?_; (focus (simp [wantedA]; done)))))
  (refine FnW.mono (lists_spec A4 z1 z2 l2 l2 v2 w2 q2 q4) ?_; rintro _ A5 ⟨⟨t, rfl, ht''⟩, hA⟩)
  subst hA
  have := ht''.2 rfl
  subst this
  (repeat (first | (refine OpsW.step rfl ?_; simp [opV]; done) | (refine OpsW.step rfl ?_; simp [opV]) | (refine OpsW.step ?_ ?_; (focus (simp [wantedA]; done)); simp [opV]) | (refine OpsW.un ?_ ?_; (focus (simp [wantedA]; done)))))
  (refine OpsW.nil ?_; try simp only [andThen, endBlock])
  (refine W.ret ?_; try simp only [andThen, endBlock])
  refine ⟨.inr rfl, [.bool true], by simp [Tryz.f3, resultsA, resultA], ?_⟩
  exact ⟨rfl, hx02.trans (hx3.trans hx4)⟩
end Go.Proofs

/-! DataflowSolves: the run, on every world that holds its arguments. -/
namespace Go.Proofs
open Go Go.Ab
theorem Tryz.awake_ext (A : AH) : FnW Tryz.prog 5 [] A fun v A' => v = .bool true ∧ Ext A A' :=
  (Tryz.awake A).mono fun v A' ⟨h1, h2⟩ => ⟨h1, by subst h2; exact ⟨Nat.le_add_right _ _, fun _ _ => rfl⟩⟩

theorem Tryz.run3 {W : World} {v gv kv : Value} (b : Bool) {n : Nat} {V : Nat → Value} {X Y : Nat → Int} {U : Nat → Value} {L : Nat → List Int} {n' : Nat} {V' : Nat → Value} {L' : Nat → List Int} {m : Nat} {V'' : Nat → Value} {L'' : Nat → List Int}
    (hn : n ≤ Most) (hs : WSl W v n 3 V) (h0 : ∀ i, i < n → V (i * 3) = .int .i64 (X i)) (h1 : ∀ i, i < n → V (i * 3 + 1) = .int .i64 (Y i)) (h2 : ∀ i, i < n → V (i * 3 + 2) = U i) (ho : ∀ i, i < n → (U i).oneCell' = true) (hr : ∀ i, i < n → WInts W (U i) (L i))
    (hn' : n' ≤ Most) (hs' : WSl W gv n' 1 V') (ho' : ∀ i, i < n' → (V' i).oneCell' = true) (hr' : ∀ i, i < n' → WInts W (V' i) (L' i))
    (hm : m ≤ Most) (hs'' : WSl W kv m 1 V'') (ho'' : ∀ i, i < m → (V'' i).oneCell' = true) (hr'' : ∀ i, i < m → WInts W (V'' i) (L'' i)) (hv : v.oneCell' = true) :
    Calls Tryz.prog 3 #[.agg #[v], .bool b, gv, kv] W fun e W' => e = .returned (.bool true) ∧ RowKit.Below W.heap.size W W' := by
  obtain ⟨A1, ρ1, p, pcs, t1, e1, f1⟩ := (Rd.empty W).flow hn hs h0 h1 h2 ho hr
  obtain ⟨A2, ρ2, g, gvs, t2, e2, f2⟩ := t1.rd.lists hn' hs' ho' hr'
  obtain ⟨A3, ρ3, k, kvs, t3, e3, f3⟩ := t2.rd.lists hm hs'' ho'' hr''
  obtain ⟨u, A', hok, rfl, _⟩ := law3_spec Tryz.awake_ext A3 p g k _ _ _ pcs gvs kvs b (f1.ext (t2.ext.trans t3.ext)) (f2.ext t3.ext) f3
  obtain ⟨_, _, hrun⟩ := hok _ _ rfl
  have hag : VR ρ3 (.agg [p]) (.agg #[v]) := ⟨#[v], rfl, ⟨VR.mono t3.le _ _ (VR.mono t2.le _ _ e1), trivial⟩, fun x hx => by simp at hx; subst hx; exact hv⟩
  refine (hrun ρ3 W #[.agg #[v], .bool b, gv, kv] t3.rd.hr ⟨hag, rfl, VR.mono t3.le _ _ e2, e3, trivial⟩ (fun β h1 _ => t3.rd.free β h1)).mono ?_
  rintro e W' ⟨val, ρ', rfl, hval, hst⟩
  have hval : val = .bool true := hval
  subst hval
  exact ⟨rfl, hst.os, hst.tape, hst.output, hst.size, fun b hb => hst.same b hb fun β x l h1 h2 _ => absurd h2 (by rw [t3.rd.dead β x h1]; decide)⟩
end Go.Proofs
