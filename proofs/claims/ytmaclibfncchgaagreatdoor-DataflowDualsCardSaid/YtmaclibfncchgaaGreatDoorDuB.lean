import Derived.Test.YtmaclibfncchgaaGreatDoorDuA
import Derived.Test.YtmaclibfncchgaaGreatDoorOurB
import Derived.Test.YtmaclibfncchgaaGreatDoorEvF
set_option linter.all false
/-! The closure that turns two lists; the reversed flow. -/
namespace Go.Proofs
open Go Go.Ab
theorem intSl_cells {A : AH} {v : AV} {l : List Int} (h : IntSl A v l) : cellsOf v = some [v] := by
  rcases h.1 with ⟨rfl | rfl, _, _⟩ | ⟨β, off, cap, ex, cs, rfl, _⟩ <;> rfl
/-- points of no kind with these lists -/
def fl3 (cs : List AV) : List AV := (cs.map fun v => [IV 0, IV 0, v]).flatten
theorem fl3_length (cs : List AV) : (fl3 cs).length = cs.length * 3 := by
  induction cs with
  | nil => rfl
  | cons v cs ih => simp [fl3] at ih ⊢; omega
theorem fl3_get : ∀ (cs : List AV) (a : Nat), (fl3 cs)[a * 3 + 2]? = cs[a]?
  | [], a => by simp [fl3]
  | v :: cs, 0 => by simp [fl3]
  | v :: cs, a + 1 => by
    have := fl3_get cs a
    have e : (a + 1) * 3 + 2 = (a * 3 + 2) + 3 := by omega
    rw [e]
    simpa [fl3] using this
theorem fl3_set : ∀ (cs : List AV) (a : Nat) (u : AV), (fl3 cs).set (a * 3 + 2) u = fl3 (cs.set a u)
  | [], a, u => by simp [fl3]
  | v :: cs, 0, u => by simp [fl3]
  | v :: cs, a + 1, u => by
    have := fl3_set cs a u
    have e : (a + 1) * 3 + 2 = (a * 3 + 2) + 3 := by omega
    rw [e]
    simpa [fl3] using this
theorem fl3_zero (n : Nat) : fl3 (List.replicate n .nilslice) = (List.replicate n [IV 0, IV 0, .nilslice]).flatten := by simp [fl3]
theorem vx_fl3 {cs : List AV} {a : Nat} : vx (fl3 cs) (a * 3 + 2) = vx cs a := by
  rw [vx, vx, List.getD_eq_getElem?_getD, List.getD_eq_getElem?_getD, fl3_get]
/-- the array of points that Reverse makes -/
structure RevA (A0 A : AH) (β lo n : Nat) (cs : List AV) (L : Nat → List Int) : Prop where
  get : A.get β = some (.cells (fl3 cs))
  len : cs.length = n
  lt : β < lo
  hi : lo ≤ A.next
  ge : A0.next ≤ β
  pos : 0 < β
  ext : Ext A0 A
  el : ∀ k, k < n → OwnI A0 A (vx cs k) (L k)
  sep : ∀ k, k < n → vx cs k = .nilslice ∨ lo ≤ pb (vx cs k)
  dis : ∀ j k, j < n → k < n → j ≠ k → pb (vx cs j) = pb (vx cs k) → vx cs j = .nilslice
theorem RevA.append {A0 A : AH} {β lo n k : Nat} {cs : List AV} {L : Nat → List Int} (h : RevA A0 A β lo n cs L) (hk : k < n) (x : Int) (hb : (L k).length < 1000000) :
    ∃ v' A', appendA (A.push (.cells [.int .i64 x])) 1 (vx cs k) (.slice A.next 0 1 1 true 1) = some (v', A') ∧ A'.get β = some (.cells (fl3 cs)) ∧ cellsOf v' = some [v'] ∧ RevA A0 (A'.put β (.cells (fl3 (cs.set k v')))) β lo n (cs.set k v') (updL L k (L k ++ [x])) ∧
      ∀ γ, 0 < γ → γ < lo → γ ≠ β → (A'.put β (.cells (fl3 (cs.set k v')))).get γ = A.get γ := by
  obtain ⟨v', A', g1, g2, g3, g4, g5, g6⟩ := append_int' x (h.el k hk) h.ext hb
  have hlt := h.lt
  have hhi := h.hi
  have hpos := h.pos
  have hv0 : ∀ γ, γ < lo → 0 < γ → pb (vx cs k) ≠ γ := fun γ h1 h2 => by
    rcases h.sep k hk with e | e
    · rw [e]; exact Nat.ne_of_lt h2
    · omega
  have hget : A'.get β = some (.cells (fl3 cs)) := by rw [g4 β (by omega) (fun e => hv0 β hlt hpos e.symm)]; exact h.get
  have hl := h.len
  have hv : ∀ i, vx (cs.set k v') i = if i = k then v' else vx cs i := fun i => vx_set (by omega)
  have hother : ∀ j, j < n → j ≠ k → pb (vx cs j) < A.next ∨ vx cs j = .nilslice := fun j hj _ => ownI_place (h.el j hj)
  refine ⟨v', A', g1, hget, ownI_cells g2, ⟨by rw [AH.get_put, if_pos rfl], by simpa using hl, hlt, by show lo ≤ A'.next; omega, h.ge, hpos, g3.put h.ge _, fun j hj => ?_, fun j hj => ?_, fun i j hi hj hij he => ?_⟩, fun γ h0 h1 h2 => ?_⟩
  · rw [hv]
    by_cases hjk : j = k
    · subst hjk
      rw [if_pos rfl, updL_same]
      refine ownI_keep g2 (.inr ?_) (Nat.le_refl _)
      rw [AH.get_put, if_neg (by omega)]
    · rw [if_neg hjk, updL_other hjk]
      refine ownI_keep (h.el j hj) ?_ g5
      rcases hother j hj hjk with hp | hp
      · by_cases hpe : pb (vx cs j) = pb (vx cs k)
        · exact .inl (h.dis j k hj hk hjk hpe)
        · rcases h.sep j hj with hsb | hsb
          · exact .inl hsb
          · right
            rw [AH.get_put, if_neg (by omega), g4 _ hp hpe]
      · exact .inl hp
  · rw [hv]
    by_cases hjk : j = k
    · rw [if_pos hjk]; exact .inr (by omega)
    · rw [if_neg hjk]; exact h.sep j hj
  · rw [hv, hv] at he
    rw [hv]
    by_cases hik : i = k
    · rw [if_pos hik, if_neg (by omega)] at he
      rcases hother j hj (by omega) with hp | hp
      · omega
      · rw [hp] at he
        have : pb .nilslice = 0 := rfl
        omega
    · rw [if_neg hik] at he ⊢
      by_cases hjk : j = k
      · rw [if_pos hjk] at he
        rcases hother i hi hik with hp | hp
        · omega
        · exact hp
      · rw [if_neg hjk] at he
        exact h.dis i j hi hj hij he
  · rw [AH.get_put, if_neg h2]
    exact g4 γ (by omega) fun e => hv0 γ h1 h0 e.symm
variable [LoopTab]
theorem turn_spec (A : AH) (v : AV) (ls : List (List Int)) (vs : List AV) (h : LL A v ls vs) (h2 : 2 ≤ ls.length) (hb : ls.length ≤ 1000000) : FnW Tryz.prog 12 [v] A fun u A' => LL A' u (swp [] ls) (swp .any vs) ∧ Ext A A' := by
  refine FnW.body Tryz.func12 (by decide) rfl Tryz.ntmps12 ?_
  generalize hE : bindArgs _ 0 _ = E
  have a0 := (congrArg (fun e => En.get e 0) hE).symm
  simp [bindArgs, kept, En.get_bind] at a0
  clear hE
  refine W.seq ?_
  (refine W.region (by rfl) ?_; (repeat (first | (refine OpsW.step rfl ?_; simp [opV]; done) | (refine OpsW.step rfl ?_; simp [opV]) | (refine OpsW.step ?_ ?_; (focus (simp [wantedA]; done)); simp [opV]) | (refine OpsW.un ?_ ?_; (focus (simp [wantedA]; done))))); (refine OpsW.nil ?_; try simp only [andThen, endBlock]))
  refine W.seq ?_
  (refine W.region (by rfl) ?_; (repeat (first | (refine OpsW.step rfl ?_; simp [opV, a0]; done) | (refine OpsW.step rfl ?_; simp [opV, a0]) | (refine OpsW.step ?_ ?_; (focus (simp [wantedA, a0]; done)); simp [opV, a0]) | (refine OpsW.un ?_ ?_; (focus (simp [wantedA, a0]; done))))))
  (refine FnW.mono (clone_spec A v ls.length vs h.sl (by omega) hb) ?_; rintro u A1 ⟨⟨β, ex, rfl, g1, g2, g3⟩, hx⟩)
  (repeat (first | (refine OpsW.step rfl ?_; simp [opV]; done) | (refine OpsW.step rfl ?_; simp [opV]) | (refine OpsW.step ?_ ?_; (focus (simp [wantedA]; done)); simp [opV]) | (refine OpsW.un ?_ ?_; (focus (simp [wantedA]; done)))))
  (refine OpsW.nil ?_; try simp only [andThen, endBlock])
  have hl : vs.length = ls.length := by have := h.sl.length; omega
  have hI : ∀ (i : Nat) (k : IntKind), i < ls.length → idxV Tryz.prog 25 (.slice β 0 ls.length ls.length ex 1) (.int k (i : Int)) = some (.ptr β i) := fun i k hi => by
    have := idxV_slice (o := 0) (c := ls.length) (ex := ex) (k := k) (β := β) Tryz.underlying25 Tryz.sz36 hi
    rw [this]; simp
  have i0 : idxV Tryz.prog 25 (.slice β 0 ls.length ls.length ex 1) (.int .i64 0) = some (.ptr β 0) := hI 0 .i64 (by omega)
  have i1 : idxV Tryz.prog 25 (.slice β 0 ls.length ls.length ex 1) (.int .i64 1) = some (.ptr β 1) := hI 1 .i64 (by omega)
  have hL : ∀ i, i < ls.length → loadA Tryz.prog A1 36 (.ptr β i) = some (vx vs i) := fun i hi => by
    rw [loadA_of (by rw [g1]; rfl), partA_one Tryz.sh36, vx_get (by omega)]
  have l0 := hL 0 (by omega)
  have l1 := hL 1 (by omega)
  have c0 := intSl_cells (h.el 0 (by omega))
  have c1 := intSl_cells (h.el 1 (by omega))
  have s0 := arr_store g1 (T := 36) Tryz.sz36 c1 (a := 0) (by omega)
  have gg : (A1.put β (.cells (vs.set 0 (vx vs 1)))).get β = some (.cells (vs.set 0 (vx vs 1))) := by rw [AH.get_put, if_pos rfl]
  have s1 := arr_store gg (T := 36) Tryz.sz36 c0 (a := 1) (by simp; omega)
  refine W.seq ?_
  (refine W.drawnS mixedP self0_ok [(0, 0), (1, 0), (2, 0), (3, 0), (4, 0), (5, 0), (6, 0), (7, 0), (8, 0), (9, 0), (10, 0), (11, 0)] (by rfl) (by kernel_rfl) ?_; (repeat (first | (refine RSW.step rfl rfl ?_; simp [stepV, cls, i0, i1, l0, l1, s0, s1]) | (refine RSW.step rfl ?_ ?_; (focus (simp [wantedA, i0, i1, l0, l1, s0, s1]; done)); simp [stepV, cls, i0, i1, l0, l1, s0, s1]) | (refine RSW.un rfl ?_ ?_ ?_; (focus (simp [wantedA, i0, i1, l0, l1, s0, s1]; done)); (focus (simp [cls]; done))))); refine RSW.nil ?_; try simp only [andThen, endBlock])
  ((try simp only [andThen, endBlock, if_true]); repeat (first | with_reducible refine W.seq ?_ | with_reducible refine W.block ?_ | (refine W.region (by rfl) ?_; (repeat (first | (refine OpsW.step rfl ?_; simp [opV]; done) | (refine OpsW.step rfl ?_; simp [opV]) | (refine OpsW.step ?_ ?_; (focus (simp [wantedA]; done)); simp [opV]) | (refine OpsW.un ?_ ?_; (focus (simp [wantedA]; done))))); (refine OpsW.nil ?_; try simp only [andThen, endBlock]))))
  (refine W.ret ?_; try simp only [andThen, endBlock])
  refine ⟨.inr rfl, [.slice β 0 ls.length ls.length ex 1], by simp [Tryz.f12, resultsA, resultA], ?_⟩
  have hx2 : Ext A ((A1.put β (.cells (vs.set 0 (vx vs 1)))).put β (.cells ((vs.set 0 (vx vs 1)).set 1 (vx vs 0)))) := (hx.put g2 _).put g2 _
  refine ⟨⟨.inr ⟨β, 0, _, ex, swp .any vs, by rw [swp_length], by rw [AH.get_put, if_pos rfl]; rfl, by rw [swp_length, swp_length]; omega, by rw [swp_length, Nat.mul_one, List.drop_zero, ← hl, ← swp_length .any vs, List.take_length], g3, by rw [swp_length]; exact Nat.le_refl _⟩, fun i hi => ?_, by rw [swp_length]; exact h.le⟩, hx2⟩
  rw [swp_length] at hi
  have e : vx (swp .any vs) i = vx vs (oth i) := swp_getD (by omega) i
  rw [lx_swp h2, e]
  exact (h.el _ (oth_lt h2 hi)).ext hx2
end Go.Proofs

/-! Reverse. -/
namespace Go.Proofs
open Go Go.Ab
variable [LoopTab]
theorem other_oth (A : AH) (n : Nat) (hn : n ≤ 1000000) : FnW Tryz.prog 37 [IV n] A fun u A' => u = IV ((oth n : Nat) : Int) ∧ A' = A := by
  refine FnW.mono (other_spec A n hn) ?_
  rintro u A' ⟨rfl, rfl⟩
  refine ⟨?_, rfl⟩
  congr 2
  unfold oth
  (repeat' split) <;> omega
theorem opA_build1 {P : Program} {s : Self} {e : En} {A : AH} {T : TypeId} {f : Field} {z : AV} (hu : P.underlying T = some (.struct #[f])) (hz : zeroCells P T = some [z]) (hs : sizeT P f.type = some 1) (ho : f.offset = 0) (x : Operand) {v : AV} (hv : opnd x e = v) (hc : cellsOf v = some [v]) :
    opA (.build T #[(0, x)]) P s e A = .done (.agg [v]) A := by
  subst hv
  have h1 : opA (.build T #[(0, x)]) P s e A = .ofV A (light (.build T #[(0, x)]) P e) := rfl
  have h2 : light (.build T #[(0, x)]) P e = some (.agg [opnd x e]) := by
    simp [light, hu, hz, parts, fillA, hc, hs, ho, nbeq, overAt_eq]
  rw [h1, h2]
  rfl
theorem Tryz.build24 {s : Self} {e : En} {A : AH} (x : Operand) (hc : cellsOf (opnd x e) = some [opnd x e]) : opA (.build 24 #[(0, x)]) Tryz.prog s e A = .done (.agg [opnd x e]) A :=
  opA_build1 Tryz.underlying24 Tryz.zc24 Tryz.sz22 rfl x rfl hc
theorem cellsOf_slice (β o n c : Nat) (ex : Bool) (z : Nat) : cellsOf (.slice β o n c ex z) = some [.slice β o n c ex z] := rfl
structure RvC where
  B : AH
  b1 : Nat
  b2 : Nat
  b3 : Nat
  β : Nat
  lo : Nat
  p : AV
  nx : List (List Int)
structure RvS (c : RvC) (e : En) (A : AH) (i : Nat) (cs : List AV) (L : Nat → List Int) : Prop where
  e1 : e.get 1 = .ptr c.b1 0
  e2 : e.get 2 = .ptr c.b2 0
  e3 : e.get 3 = .ptr c.b3 0
  e4 : e.get 4 = IV i
  bx : Box A c.b3 (.slice c.β 0 c.nx.length c.nx.length true 3)
  rv : RevA c.B A c.β c.lo c.nx.length cs L
def RvInv (c : RvC) (m : Nat) (e : En) (A : AH) : Prop := ∃ i : Nat, ∃ cs, m = c.nx.length - i ∧ i ≤ c.nx.length ∧ RvS c e A i cs (rev c.nx i)
def RvInv2 (c : RvC) (i : Nat) (m : Nat) (e : En) (A : AH) : Prop := ∃ j : Nat, ∃ cs, m = (lx c.nx i).length - j ∧ j ≤ (lx c.nx i).length ∧ e.get 5 = IV j ∧ RvS c e A i cs (fun t => rev c.nx i t ++ part c.nx i j t)
def RvOut (c : RvC) (i : Nat) (x : Ex) (e : En) (A : AH) : Prop := x = .exit 2 ∧ ∃ cs, RvS c e A i cs (rev c.nx (i + 1))
def RevAns (nx : List (List Int)) (u : AV) (A : AH) : Prop := ∃ q cs, u = .agg [q] ∧ Fl A q (revF nx) cs
theorem reverse_spec (A : AH) (p : AV) (nx : List (List Int)) (pcs : List AV) (h : Fl A p nx pcs) (hv : ValidF nx) (hs1 : nx.length ≤ 900) (hs2 : ∀ i, i < nx.length → (lx nx i).length ≤ 1000) (hpos : 0 < A.next) : FnW Tryz.prog 14 [.agg [p]] A fun u A' => RevAns nx u A' ∧ Ext A A' := by
  refine FnW.body Tryz.func14 (by decide) rfl Tryz.ntmps14 ?_
  generalize hE : bindArgs _ 0 _ = E
  have a0 := (congrArg (fun e => En.get e 0) hE).symm
  simp [bindArgs, kept, En.get_bind] at a0
  clear hE
  refine W.seq ?_
  (refine W.region (by rfl) ?_; (repeat (first | (refine OpsW.step rfl ?_; simp [opV, a0, allocL_alloc Tryz.zc24]; done) | (refine OpsW.step rfl ?_; simp [opV, a0, allocL_alloc Tryz.zc24]) | (refine OpsW.step ?_ ?_; (focus (simp [wantedA, a0, allocL_alloc Tryz.zc24]; done)); simp [opV, a0, allocL_alloc Tryz.zc24]) | (refine OpsW.un ?_ ?_; (focus (simp [wantedA, a0, allocL_alloc Tryz.zc24]; done))))); (refine OpsW.nil ?_; try simp only [andThen, endBlock]))
  have hb1 := Box.new A p
  have hx1 := Ext.box A (.cells [p])
  have hb2 := Box.new (A.push (.cells [p])) .nilslice
  have hx2 := Ext.box (A.push (.cells [p])) (.cells [.nilslice])
  have hb1' := hb1.ext hx2
  have hx02 := hx1.trans hx2
  have hf2 := h.ext hx02
  have hn2 : ((A.push (.cells [p])).push (.cells [.nilslice])).next = A.next + 2 := rfl
  generalize hB : (A.push (.cells [p])).push (.cells [.nilslice]) = B at *
  have hmk : mkV Tryz.prog 22 (.int .i64 (nx.length : Int)) (.int .i64 (nx.length : Int)) = some (.slc nx.length nx.length 3, .cells (List.replicate nx.length [IV 0, IV 0, .nilslice]).flatten) := mkV_of Tryz.underlying22 Tryz.zc39 Tryz.sz39 rfl Tryz.ob39 (by omega)
  rw [← fl3_zero] at hmk
  have hst : storeA Tryz.prog ((B.push (.cells (fl3 (List.replicate nx.length .nilslice)))).push (.cells [.nilslice])) 24 (.ptr (B.push (.cells (fl3 (List.replicate nx.length .nilslice)))).next 0) (.agg [.slice B.next 0 nx.length nx.length true 3]) = _ := store_new Tryz.sz24 (by rfl) (by rfl)
  refine W.seq ?_
  refine W.region (by rfl) ?_
  (repeat (first | (refine OpsW.step rfl ?_; simp [opV, box_load hb1'.get Tryz.sh22, Fl.len hf2 (P := Tryz.prog) Tryz.underlying22, allocL_mk, hmk, Tryz.build24, cellsOf_slice, allocL_alloc Tryz.zc24, hst]; done) | (refine OpsW.step rfl ?_; simp [opV, box_load hb1'.get Tryz.sh22, Fl.len hf2 (P := Tryz.prog) Tryz.underlying22, allocL_mk, hmk, Tryz.build24, cellsOf_slice, allocL_alloc Tryz.zc24, hst]) | (refine OpsW.step ?_ ?_; (focus (simp [wantedA, box_load hb1'.get Tryz.sh22, Fl.len hf2 (P := Tryz.prog) Tryz.underlying22, allocL_mk, hmk, Tryz.build24, cellsOf_slice, allocL_alloc Tryz.zc24, hst]; done)); simp [opV, box_load hb1'.get Tryz.sh22, Fl.len hf2 (P := Tryz.prog) Tryz.underlying22, allocL_mk, hmk, Tryz.build24, cellsOf_slice, allocL_alloc Tryz.zc24, hst]) | (refine OpsW.un ?_ ?_; (focus (simp [wantedA, box_load hb1'.get Tryz.sh22, Fl.len hf2 (P := Tryz.prog) Tryz.underlying22, allocL_mk, hmk, Tryz.build24, cellsOf_slice, allocL_alloc Tryz.zc24, hst]; done)))))
  (refine OpsW.nil ?_; try simp only [andThen, endBlock])
  have hb3 : Box (((B.push (.cells (fl3 (List.replicate nx.length .nilslice)))).push (.cells [.nilslice])).put (B.push (.cells (fl3 (List.replicate nx.length .nilslice)))).next (.cells [.slice B.next 0 nx.length nx.length true 3])) (B.push (.cells (fl3 (List.replicate nx.length .nilslice)))).next (.slice B.next 0 nx.length nx.length true 3) := ⟨get_new _ _ _, Nat.lt_succ_self _⟩
  have hn3 : (B.push (.cells (fl3 (List.replicate nx.length .nilslice)))).next = B.next + 1 := rfl
  have hvz : ∀ a, a < nx.length → vx (List.replicate nx.length AV.nilslice) a = .nilslice := fun a ha => by simp [vx, ha]
  have hrv : RevA B (((B.push (.cells (fl3 (List.replicate nx.length .nilslice)))).push (.cells [.nilslice])).put (B.push (.cells (fl3 (List.replicate nx.length .nilslice)))).next (.cells [.slice B.next 0 nx.length nx.length true 3])) B.next (B.next + 2) nx.length (List.replicate nx.length .nilslice) (rev nx 0) :=
    ⟨by rw [hn3, AH.get_put, if_neg (by omega), AH.get_push, hn3, if_neg (by omega), AH.get_push, if_pos rfl], by simp, by omega, Nat.le_refl _, Nat.le_refl _, by omega, ((Ext.box B _).push _).put (by rw [hn3]; omega) _, fun k hk => by rw [hvz k hk]; exact .inl ⟨rfl, rfl⟩, fun k hk => .inl (hvz k hk), fun j k hj _ _ _ => hvz j hj⟩
  generalize ((B.push (.cells (fl3 (List.replicate nx.length .nilslice)))).push (.cells [.nilslice])).put (B.push (.cells (fl3 (List.replicate nx.length .nilslice)))).next (.cells [.slice B.next 0 nx.length nx.length true 3]) = B4 at *
  rw [hn3] at hb3
  have hb2n : (A.push (.cells [p])).next = A.next + 1 := rfl
  ((try simp only [andThen, endBlock, if_true]); repeat (first | with_reducible refine W.seq ?_ | with_reducible refine W.block ?_ | (refine W.region (by rfl) ?_; (repeat (first | (refine OpsW.step rfl ?_; simp [opV]; done) | (refine OpsW.step rfl ?_; simp [opV]) | (refine OpsW.step ?_ ?_; (focus (simp [wantedA]; done)); simp [opV]) | (refine OpsW.un ?_ ?_; (focus (simp [wantedA]; done))))); (refine OpsW.nil ?_; try simp only [andThen, endBlock]))))
  refine W.loop ?_
  refine LW.induct (RvInv ⟨B, A.next, A.next + 1, B.next + 1, B.next, B.next + 2, p, nx⟩) ?_ _ _ B4 ⟨0, _, rfl, Nat.zero_le _, by simp, by simp [hb2n], by simp [hn3], by simp, hb3, hrv⟩
  clear hb3 hrv hvz hmk hst
  rintro m e A1 ⟨i, cs, rfl, hi, s⟩
  obtain ⟨e1, e2, e3, e4, hbx, hrv⟩ := s
  simp only at e1 e2 e3 e4 hbx hrv hi
  have hf1 := hf2.ext hrv.ext
  have hbx1 := hb1'.ext hrv.ext
  ((try simp only [andThen, endBlock, if_true]); repeat (first | with_reducible refine W.seq ?_ | with_reducible refine W.block ?_ | (refine W.region (by rfl) ?_; (repeat (first | (refine OpsW.step rfl ?_; simp [opV, e1, e4, box_load hbx1.get Tryz.sh22, Fl.len hf1 (P := Tryz.prog) Tryz.underlying22]; done) | (refine OpsW.step rfl ?_; simp [opV, e1, e4, box_load hbx1.get Tryz.sh22, Fl.len hf1 (P := Tryz.prog) Tryz.underlying22]) | (refine OpsW.step ?_ ?_; (focus (simp [wantedA, e1, e4, box_load hbx1.get Tryz.sh22, Fl.len hf1 (P := Tryz.prog) Tryz.underlying22]; done)); simp [opV, e1, e4, box_load hbx1.get Tryz.sh22, Fl.len hf1 (P := Tryz.prog) Tryz.underlying22]) | (refine OpsW.un ?_ ?_; (focus (simp [wantedA, e1, e4, box_load hbx1.get Tryz.sh22, Fl.len hf1 (P := Tryz.prog) Tryz.underlying22]; done))))); (refine OpsW.nil ?_; try simp only [andThen, endBlock]))))
  by_cases hlt : i < nx.length
  · (refine W.cond true ?_ ?_; (focus (simp [hlt]; done)); simp only [if_true])
    (refine W.skip ?_; try simp only [andThen, endBlock])
    ((try simp only [andThen, endBlock, if_true]); repeat (first | with_reducible refine W.seq ?_ | with_reducible refine W.block ?_ | (refine W.region (by rfl) ?_; (repeat (first | (refine OpsW.step rfl ?_; simp [opV]; done) | (refine OpsW.step rfl ?_; simp [opV]) | (refine OpsW.step ?_ ?_; (focus (simp [wantedA]; done)); simp [opV]) | (refine OpsW.un ?_ ?_; (focus (simp [wantedA]; done))))); (refine OpsW.nil ?_; try simp only [andThen, endBlock]))))
    refine W.mono (Q := RvOut ⟨B, A.next, A.next + 1, B.next + 1, B.next, B.next + 2, p, nx⟩ i) ?_ ?_
    · refine W.loop ?_
      refine LW.induct (RvInv2 ⟨B, A.next, A.next + 1, B.next + 1, B.next, B.next + 2, p, nx⟩ i) ?_ _ _ A1 ⟨0, cs, rfl, Nat.zero_le _, by simp, by simp [e1], by simp [e2], by simp [e3], by simp [e4], hbx, by simpa [part_zero] using hrv⟩
      clear hbx hrv hf1 hbx1 e1 e2 e3 e4
      rintro m e A2 ⟨j, cs, rfl, hj, e5, s⟩
      obtain ⟨e1, e2, e3, e4, hbx, hrv⟩ := s
      simp only at e1 e2 e3 e4 hbx hrv hj
      have hf1 := hf2.ext hrv.ext
      have hbx1 := hb1'.ext hrv.ext
      have hn := hf1.el i hlt
      ((try simp only [andThen, endBlock, if_true]); repeat (first | with_reducible refine W.seq ?_ | with_reducible refine W.block ?_ | (refine W.region (by rfl) ?_; (repeat (first | (refine OpsW.step rfl ?_; simp [opV, e1, e4, e5, box_load hbx1.get Tryz.sh22, Fl.len hf1 (P := Tryz.prog) Tryz.underlying22, Fl.idx hf1 Tryz.underlying22 Tryz.sz39 hlt, Fl.load hf1 Tryz.sh36 hlt, IntSl.len hn (P := Tryz.prog) Tryz.underlying36]; done) | (refine OpsW.step rfl ?_; simp [opV, e1, e4, e5, box_load hbx1.get Tryz.sh22, Fl.len hf1 (P := Tryz.prog) Tryz.underlying22, Fl.idx hf1 Tryz.underlying22 Tryz.sz39 hlt, Fl.load hf1 Tryz.sh36 hlt, IntSl.len hn (P := Tryz.prog) Tryz.underlying36]) | (refine OpsW.step ?_ ?_; (focus (simp [wantedA, e1, e4, e5, box_load hbx1.get Tryz.sh22, Fl.len hf1 (P := Tryz.prog) Tryz.underlying22, Fl.idx hf1 Tryz.underlying22 Tryz.sz39 hlt, Fl.load hf1 Tryz.sh36 hlt, IntSl.len hn (P := Tryz.prog) Tryz.underlying36]; done)); simp [opV, e1, e4, e5, box_load hbx1.get Tryz.sh22, Fl.len hf1 (P := Tryz.prog) Tryz.underlying22, Fl.idx hf1 Tryz.underlying22 Tryz.sz39 hlt, Fl.load hf1 Tryz.sh36 hlt, IntSl.len hn (P := Tryz.prog) Tryz.underlying36]) | (refine OpsW.un ?_ ?_; (focus (simp [wantedA, e1, e4, e5, box_load hbx1.get Tryz.sh22, Fl.len hf1 (P := Tryz.prog) Tryz.underlying22, Fl.idx hf1 Tryz.underlying22 Tryz.sz39 hlt, Fl.load hf1 Tryz.sh36 hlt, IntSl.len hn (P := Tryz.prog) Tryz.underlying36]; done))))); (refine OpsW.nil ?_; try simp only [andThen, endBlock]))))
      by_cases hjt : j < (lx nx i).length
      · (refine W.cond true ?_ ?_; (focus (simp [hjt]; done)); simp only [if_true])
        (refine W.skip ?_; try simp only [andThen, endBlock])
        obtain ⟨q, hq⟩ : ∃ q, q = (ix (lx nx i) j).toNat := ⟨_, rfl⟩
        have hmem := hv.2.2.2 i hlt _ (ix_mem hjt)
        have hqx : ix (lx nx i) j = (q : Int) := by omega
        have hqn : q < nx.length := by omega
        have hn1 := hv.1
        have hoq : oth q < nx.length := oth_lt hn1 hqn
        have hoi : oth i < nx.length := oth_lt hn1 hlt
        refine W.seq ?_
        refine W.block ?_
        refine W.seq ?_
        (refine W.region (by rfl) ?_; (repeat (first | (refine OpsW.step rfl ?_; simp [opV, e1, e4, e5, box_load hbx1.get Tryz.sh22, Fl.len hf1 (P := Tryz.prog) Tryz.underlying22, Fl.idx hf1 Tryz.underlying22 Tryz.sz39 hlt, Fl.load hf1 Tryz.sh36 hlt, IntSl.idx hn Tryz.underlying36 Tryz.sz3 hjt, IntSl.load hn Tryz.sh3 hjt, hqx]; done) | (refine OpsW.step rfl ?_; simp [opV, e1, e4, e5, box_load hbx1.get Tryz.sh22, Fl.len hf1 (P := Tryz.prog) Tryz.underlying22, Fl.idx hf1 Tryz.underlying22 Tryz.sz39 hlt, Fl.load hf1 Tryz.sh36 hlt, IntSl.idx hn Tryz.underlying36 Tryz.sz3 hjt, IntSl.load hn Tryz.sh3 hjt, hqx]) | (refine OpsW.step ?_ ?_; (focus (simp [wantedA, e1, e4, e5, box_load hbx1.get Tryz.sh22, Fl.len hf1 (P := Tryz.prog) Tryz.underlying22, Fl.idx hf1 Tryz.underlying22 Tryz.sz39 hlt, Fl.load hf1 Tryz.sh36 hlt, IntSl.idx hn Tryz.underlying36 Tryz.sz3 hjt, IntSl.load hn Tryz.sh3 hjt, hqx]; done)); simp [opV, e1, e4, e5, box_load hbx1.get Tryz.sh22, Fl.len hf1 (P := Tryz.prog) Tryz.underlying22, Fl.idx hf1 Tryz.underlying22 Tryz.sz39 hlt, Fl.load hf1 Tryz.sh36 hlt, IntSl.idx hn Tryz.underlying36 Tryz.sz3 hjt, IntSl.load hn Tryz.sh3 hjt, hqx]) | (refine OpsW.un ?_ ?_; (focus (simp [wantedA, e1, e4, e5, box_load hbx1.get Tryz.sh22, Fl.len hf1 (P := Tryz.prog) Tryz.underlying22, Fl.idx hf1 Tryz.underlying22 Tryz.sz39 hlt, Fl.load hf1 Tryz.sh36 hlt, IntSl.idx hn Tryz.underlying36 Tryz.sz3 hjt, IntSl.load hn Tryz.sh3 hjt, hqx]; done))))); (refine OpsW.nil ?_; try simp only [andThen, endBlock]))
        refine W.seq ?_
        (refine W.region (by rfl) ?_; (repeat (first | (refine OpsW.step rfl ?_; simp [opV]; done) | (refine OpsW.step rfl ?_; simp [opV]) | (refine OpsW.step ?_ ?_; (focus (simp [wantedA]; done)); simp [opV]) | (refine OpsW.un ?_ ?_; (focus (simp [wantedA]; done))))))
        (refine FnW.mono (other_oth A2 q (by omega)) ?_; rintro _ A3 ⟨rfl, rfl⟩)
        (repeat (first | (refine OpsW.step rfl ?_; simp [opV]; done) | (refine OpsW.step rfl ?_; simp [opV]) | (refine OpsW.step ?_ ?_; (focus (simp [wantedA]; done)); simp [opV]) | (refine OpsW.un ?_ ?_; (focus (simp [wantedA]; done)))))
        (refine OpsW.nil ?_; try simp only [andThen, endBlock])
        have hlen : (rev nx i (oth q) ++ part nx i j (oth q)).length < 1000000 := by
          have h1 := rev_length hs2 (oth q) i hi
          have h2 := part_length nx i j (oth q)
          have h3 := hs2 i hlt
          rw [List.length_append]
          have : i * 1000 ≤ 899 * 1000 := Nat.mul_le_mul_right _ (by omega)
          omega
        obtain ⟨v', A4, happ, hget, hcl, hrv', hfr⟩ := hrv.append hoq ((oth i : Nat) : Int) hlen
        have hcl' := hrv.len
        have hidx : idxV Tryz.prog 22 (.slice B.next 0 nx.length nx.length true 3) (.int .i64 ((oth q : Nat) : Int)) = some (.ptr B.next (oth q * 3)) := by
          have := idxV_slice (o := 0) (c := nx.length) (ex := true) (k := .i64) (β := B.next) Tryz.underlying22 Tryz.sz39 hoq
          rw [this]; simp
        have hld : loadA Tryz.prog A3 36 (.ptr B.next (oth q * 3 + 2)) = some (vx cs (oth q)) := by
          rw [loadA_of (by rw [hrv.get]; rfl), partA_one Tryz.sh36, fl3_get, vx_get (by omega)]
        have hst : storeA Tryz.prog A4 36 (.ptr B.next (oth q * 3 + 2)) v' = some (A4.put B.next (.cells (fl3 (cs.set (oth q) v')))) := by
          rw [← fl3_set]
          exact arr_store hget Tryz.sz36 hcl (by rw [fl3_length]; omega)
        have heq : eqAV (vx cs (oth q)) (vx cs (oth q)) = true := by
          rcases hrv.el (oth q) hoq with ⟨e, _⟩ | ⟨γ, m, ex, e, _⟩ <;> rw [e]
          · rfl
          · exact eqAV_slice _ _ _ _ _ _
        have hbx4 : A4.get (B.next + 1) = some (.cells [.slice B.next 0 nx.length nx.length true 3]) := by
          have := hfr (B.next + 1) (by omega) (by omega) (by omega)
          rw [AH.get_put, if_neg (by omega)] at this
          rw [this]; exact hbx.get
        obtain ⟨u5, A5, hcall, rfl, rfl⟩ := other_oth A3 i (by omega)
        (refine W.drawnB mixedP (selfC_ok hcall self0_ok) [(9, 0), (10, 0), (3, 0), (4, 1), (5, 0), (6, 0), (7, 0), (8, 1), (11, 0), (12, 0), (0, 0), (1, 2), (2, 0), (13, 0), (14, 0), (15, 0)] (by rfl) (by kernel_rfl) ?_; (repeat (first | (refine RB.step rfl rfl ?_; simp [stepB, cls, e3, e4, box_load hbx.get Tryz.sh22, box_load hbx4 Tryz.sh22, hidx, hld, allocL_slice1, opA_append, happ, hst, eqAV_slice, heq, opA_callf, selfC_call]) | (refine RB.step rfl ?_ ?_; (focus (simp [wantedA, e3, e4, box_load hbx.get Tryz.sh22, box_load hbx4 Tryz.sh22, hidx, hld, allocL_slice1, opA_append, happ, hst, eqAV_slice, heq, opA_callf, selfC_call]; done)); simp [stepB, cls, e3, e4, box_load hbx.get Tryz.sh22, box_load hbx4 Tryz.sh22, hidx, hld, allocL_slice1, opA_append, happ, hst, eqAV_slice, heq, opA_callf, selfC_call]) | (refine RB.un rfl ?_ ?_ ?_; (focus (simp [wantedA, e3, e4, box_load hbx.get Tryz.sh22, box_load hbx4 Tryz.sh22, hidx, hld, allocL_slice1, opA_append, happ, hst, eqAV_slice, heq, opA_callf, selfC_call]; done)); (focus (simp [cls]; done))) | (refine RB.unH rfl ?_ ?_ ?_; (focus (simp [wantedA, e3, e4, box_load hbx.get Tryz.sh22, box_load hbx4 Tryz.sh22, hidx, hld, allocL_slice1, opA_append, happ, hst, eqAV_slice, heq, opA_callf, selfC_call]; done)); (focus (simp [cls]; done))))); refine RB.nil ?_; try simp only [andThen, endBlock])
        ((try simp only [andThen, endBlock, if_true]); repeat (first | with_reducible refine W.seq ?_ | with_reducible refine W.block ?_ | (refine W.region (by rfl) ?_; (repeat (first | (refine OpsW.step rfl ?_; simp [opV, e5]; done) | (refine OpsW.step rfl ?_; simp [opV, e5]) | (refine OpsW.step ?_ ?_; (focus (simp [wantedA, e5]; done)); simp [opV, e5]) | (refine OpsW.un ?_ ?_; (focus (simp [wantedA, e5]; done))))); (refine OpsW.nil ?_; try simp only [andThen, endBlock]))))
        have hL : updL (fun t => rev nx i t ++ part nx i j t) (oth q) ((fun t => rev nx i t ++ part nx i j t) (oth q) ++ [((oth i : Nat) : Int)]) = fun t => rev nx i t ++ part nx i (j + 1) t := by
          funext t
          have hqt : (ix (lx nx i) j).toNat = q := hq.symm
          rw [part_succ hjt, hqt]
          by_cases ht : t = oth q
          · subst ht
            rw [updL_same, if_pos rfl, List.append_assoc]
          · rw [updL_other ht, if_neg (fun e => ht e.symm), List.append_nil]
        rw [hL] at hrv'
        have hhi := hrv'.hi
        exact ⟨_, show (lx nx i).length - (j + 1) < (lx nx i).length - j by omega, j + 1, cs.set (oth q) v', rfl, show j + 1 ≤ (lx nx i).length by omega, by simp [wrap_succ hjt hn.2], by simp [e1], by simp [e2], by simp [e3], by simp [e4], ⟨by rw [hfr (B.next + 1) (by omega) (by omega) (by omega)]; exact hbx.get, by show B.next + 1 < _; omega⟩, hrv'⟩
      · (refine W.cond false ?_ ?_; (focus (simp [hjt]; done)); simp only [Bool.false_eq_true, if_false])
        (refine W.exit ?_; try simp only [andThen, endBlock, if_true])
        have hje : j = (lx nx i).length := by omega
        subst hje
        exact ⟨rfl, cs, by simp [e1], by simp [e2], by simp [e3], by simp [e4], hbx, hrv⟩
    · clear hbx hrv hf1 hbx1 e1 e2 e3 e4
      rintro x e A2 ⟨rfl, cs, s⟩
      obtain ⟨e1, e2, e3, e4, hbx, hrv⟩ := s
      ((try simp only [andThen, endBlock, if_true]); repeat (first | with_reducible refine W.seq ?_ | with_reducible refine W.block ?_ | (refine W.region (by rfl) ?_; (repeat (first | (refine OpsW.step rfl ?_; simp [opV, e4]; done) | (refine OpsW.step rfl ?_; simp [opV, e4]) | (refine OpsW.step ?_ ?_; (focus (simp [wantedA, e4]; done)); simp [opV, e4]) | (refine OpsW.un ?_ ?_; (focus (simp [wantedA, e4]; done))))); (refine OpsW.nil ?_; try simp only [andThen, endBlock]))))
      exact ⟨_, show nx.length - (i + 1) < nx.length - i by omega, i + 1, cs, rfl, show i + 1 ≤ nx.length by omega, by simp [e1], by simp [e2], by simp [e3], by simp [wrap_succ hlt h.le], hbx, hrv⟩
  · (refine W.cond false ?_ ?_; (focus (simp [hlt]; done)); simp only [Bool.false_eq_true, if_false])
    (refine W.exit ?_; try simp only [andThen, endBlock, if_true])
    have hie : i = nx.length := by omega
    subst hie
    have hbx2 := hb2.ext hrv.ext
    rw [hb2n] at hbx2
    have hst : storeA Tryz.prog A1 24 (.ptr (A.next + 1) 0) (.agg [.slice B.next 0 nx.length nx.length true 3]) = some (A1.put (A.next + 1) (.cells [.slice B.next 0 nx.length nx.length true 3])) := by
      rw [storeA_of hbx2.get (cellsOf_agg _) Tryz.sz24 rfl (by simp)]
      simp
    have hgp : (A1.put (A.next + 1) (.cells [.slice B.next 0 nx.length nx.length true 3])).get (A.next + 1) = some (.cells [.slice B.next 0 nx.length nx.length true 3]) := by rw [AH.get_put, if_pos rfl]
    ((try simp only [andThen, endBlock, if_true]); repeat (first | with_reducible refine W.seq ?_ | with_reducible refine W.block ?_ | (refine W.region (by rfl) ?_; (repeat (first | (refine OpsW.step rfl ?_; simp [opV, e2, e3, box_whole hbx.get Tryz.sh24, hst]; done) | (refine OpsW.step rfl ?_; simp [opV, e2, e3, box_whole hbx.get Tryz.sh24, hst]) | (refine OpsW.step ?_ ?_; (focus (simp [wantedA, e2, e3, box_whole hbx.get Tryz.sh24, hst]; done)); simp [opV, e2, e3, box_whole hbx.get Tryz.sh24, hst]) | (refine OpsW.un ?_ ?_; (focus (simp [wantedA, e2, e3, box_whole hbx.get Tryz.sh24, hst]; done))))); (refine OpsW.nil ?_; try simp only [andThen, endBlock]))))
    (refine W.ret ?_; try simp only [andThen, endBlock])
    refine ⟨.inr rfl, [.agg [.slice B.next 0 nx.length nx.length true 3]], by simp [Tryz.f14, resultsA, resultA, e2, box_whole hgp Tryz.sh24], ?_⟩
    have hlen := hrv.len
    have hhi := hrv.hi
    refine ⟨⟨_, fl3 cs, rfl, .inr ⟨B.next, 0, nx.length, true, fl3 cs, by rw [revF_length], by rw [AH.get_put, if_neg (by omega), hrv.get]; rfl, by rw [fl3_length, revF_length]; omega, by rw [revF_length, List.drop_zero, ← hlen, ← fl3_length, List.take_length], by show B.next < A1.next; omega, by rw [revF_length]; exact Nat.le_refl _⟩, fun k hk => ?_, by rw [revF_length]; exact h.le⟩, (hx02.trans hrv.ext).put (by omega) _⟩
    rw [revF_length] at hk
    rw [vx_fl3, lx_revF hk]
    have hbnd := rev_length hs2 k nx.length (Nat.le_refl _)
    have h9 : nx.length * 1000 ≤ 900 * 1000 := Nat.mul_le_mul_right _ hs1
    refine OwnI.sl (A0 := B) (ownI_keep (hrv.el k hk) ?_ (Nat.le_refl _)) (by rw [Most_eq]; omega)
    rcases hrv.sep k hk with e | e
    · exact .inl e
    · right
      rw [AH.get_put, if_neg (by omega)]
end Go.Proofs

/-! slices.Compact on a sorted slice of the call's own. -/
namespace Go.Ab
open Go
variable {P : Program}
theorem rest_own {T el β n k : Nat} {kd : IntKind} {ex : Bool} (hu : P.underlying T = some (.slice el)) (hz : sizeT P el = some 1) (hk : k < n) : restV P T (.slice β 0 n n ex 1) (.int kd (k : Int)) = some (.slice β k (n - k) (n - k) ex 1) := by
  have h1 : Nat.ble k n = true := by rw [nble]; simp; omega
  have h2 : Nat.beq n k = false := by rw [nbeq]; simp; omega
  have h3 : Nat.blt 0 n = true := by rw [nblt]; simp; omega
  have h4 : Nat.ble n n = true := by rw [nble]; simp
  cases ex <;> simp [restV, hu, hz, sliceA, h1, h2, h3, h4]
/-- the head of a slice -/
noncomputable def headV (P : Program) (T : TypeId) (v i : AV) : Option AV :=
  match idx i, P.underlying T with
  | some n, some (.slice el) => (match sizeT P el with | some z => sliceA z v none (some n) none | none => none)
  | _, _ => none
theorem opA_head {e : En} {A : AH} {s : Self} (T : TypeId) (x y : Operand) {el : Nat} (hu : P.underlying T = some (.slice el)) : opA (.slice T x none (some y) none) P s e A = .ofV A (headV P T (opnd x e) (opnd y e)) := by
  have h1 : opA (.slice T x none (some y) none) P s e A = .ofV A (light (.slice T x none (some y) none) P e) := rfl
  rw [h1]
  congr 1
  simp only [light, headV, optIdx, hu]
  cases idx (opnd y e) <;> rfl
theorem head_own {T el β n k : Nat} {kd : IntKind} {ex : Bool} (hu : P.underlying T = some (.slice el)) (hz : sizeT P el = some 1) (hk : k ≤ n) (h0 : 0 < n) : headV P T (.slice β 0 n n ex 1) (.int kd (k : Int)) = some (.slice β 0 k n ex 1) := by
  have h1 : Nat.ble k n = true := by rw [nble]; simp; omega
  have h2 : Nat.ble 0 k = true := by rw [nble]; simp
  have h3 : Nat.blt 0 n = true := by rw [nblt]; simp; omega
  have h4 : Nat.beq n 0 = false := by rw [nbeq]; simp; omega
  cases ex <;> simp [headV, hu, hz, sliceA, h1, h2, h3, h4]
theorem opA_clear {e : En} {A : AH} {s : Self} (x : Operand) (T : TypeId) : opA (.call ⟨.builtin .clear, #[x], #[T]⟩) P s e A = (match clearA P A T (opnd x e) with | some A' => .done (.tup []) A' | none => .stuck []) := rfl
theorem clear_own {A : AH} {T el β n k : Nat} {ex : Bool} {m : List Int} (hu : P.underlying T = some (.slice el)) (hz : sizeT P el = some 1) (hc : zeroCells P el = some [.int .i64 0]) (hg : A.get β = some (.cells (m.map IV))) (hm : m.length = n) (hk : k < n) :
    clearA P A T (.slice β k (n - k) (n - k) ex 1) = some (A.put β (.cells ((m.take k ++ List.replicate (n - k) 0).map IV))) := by
  obtain ⟨d, hd⟩ : ∃ d, n - k = d + 1 := ⟨n - k - 1, by omega⟩
  have hov : overAt k (List.replicate (d + 1) [AV.int .i64 0]).flatten (m.map IV) = some ((m.take k ++ List.replicate (n - k) 0).map IV) := by
    have hf : (List.replicate (d + 1) [AV.int .i64 0]).flatten = List.replicate (d + 1) (IV 0) := by simp [List.flatten_replicate_singleton]
    rw [hf, overAt_eq, if_pos (by simp; omega)]
    have : (m.map IV).drop (k + (List.replicate (d + 1) (IV 0)).length) = [] := List.drop_eq_nil_of_le (by simp; omega)
    rw [this, hd]
    simp
  rw [hd] at *
  have h1 : Nat.beq ([AV.int .i64 0] : List AV).length 1 = true := rfl
  have h2 : Nat.beq 1 1 = true := rfl
  simp only [clearA, hu, hc, hz, hg, h1, h2, hov]
end Go.Ab
namespace Go.Proofs
open Go Go.Ab
theorem opn_cells (x : Int) : cellsOf (IV x) = some [IV x] := rfl
theorem sorted_le {l : List Int} (h : l.Pairwise (· ≤ ·)) {i j : Nat} (hij : i ≤ j) (hj : j < l.length) : ix l i ≤ ix l j := by
  by_cases e : i = j
  · subst e; exact Int.le_refl _
  · have := List.pairwise_iff_getElem.1 h i j (by omega) hj (by omega)
    rw [ix_eq (by omega), ix_eq hj]; exact this
theorem mem_take_ix {l : List Int} {p : Nat} {x : Int} : x ∈ l.take p ↔ ∃ j, j < p ∧ j < l.length ∧ x = ix l j := by
  rw [List.mem_take_iff_getElem]
  constructor
  · rintro ⟨j, hj, rfl⟩
    exact ⟨j, by omega, by omega, (ix_eq (by omega)).symm⟩
  · rintro ⟨j, h1, h2, rfl⟩
    exact ⟨j, by omega, (ix_eq h2).symm⟩
/-- what Compact has done: k kept out of the first p -/
structure CmpS (l m : List Int) (k p : Nat) : Prop where
  len : m.length = l.length
  k1 : 1 ≤ k
  kp : k < p
  pl : p ≤ l.length
  old : ∀ j, p - 1 ≤ j → j < l.length → ix m j = ix l j
  lt : (m.take k).Pairwise (· < ·)
  mem : ∀ x, x ∈ m.take k ↔ x ∈ l.take p
  last : ix m (k - 1) = ix l (p - 1)
theorem ix_set {l : List Int} {i j : Nat} {x : Int} (h : i < l.length) : ix (l.set i x) j = if j = i then x else ix l j := by
  simp only [ix, List.getD_eq_getElem?_getD, List.getElem?_set]
  by_cases hij : j = i
  · subst hij; simp [h]
  · have : ¬ i = j := fun e => hij e.symm
    simp [hij, this]
theorem CmpS.skip {l m : List Int} {k p : Nat} (h : CmpS l m k p) (hp : p < l.length) (he : ix l p = ix l (p - 1)) : CmpS l m k (p + 1) := by
  have h1 := h.kp
  have h2 := h.k1
  refine ⟨h.len, h.k1, by omega, by omega, fun j hj hl => h.old j (by omega) hl, h.lt, fun x => ?_, by rw [h.last, Nat.add_sub_cancel, he]⟩
  rw [h.mem, mem_take_ix, mem_take_ix]
  constructor
  · rintro ⟨j, a, b, c⟩; exact ⟨j, by omega, b, c⟩
  · rintro ⟨j, a, b, c⟩
    by_cases hj : j = p
    · subst hj; exact ⟨j - 1, by omega, by omega, by rw [c, he]⟩
    · exact ⟨j, by omega, b, c⟩
theorem CmpS.keep {l m : List Int} {k p : Nat} (hs : l.Pairwise (· ≤ ·)) (h : CmpS l m k p) (hp : p < l.length) (hne : ix l p ≠ ix l (p - 1)) : CmpS l (m.set k (ix l p)) (k + 1) (p + 1) := by
  have h1 := h.kp
  have h2 := h.k1
  have h3 := h.len
  have hkm : k < m.length := by omega
  have hlt : ix l (p - 1) < ix l p := by
    have := sorted_le hs (i := p - 1) (j := p) (by omega) hp
    omega
  have htk : (m.set k (ix l p)).take (k + 1) = m.take k ++ [ix l p] := by
    rw [take_ix (by simpa using hkm), ix_set hkm, if_pos rfl, List.take_set_of_le (Nat.le_refl _)]
  refine ⟨by simpa using h3, by omega, by omega, by omega, fun j hj hl => ?_, ?_, fun x => ?_, ?_⟩
  · rw [ix_set hkm, if_neg (by omega)]; exact h.old j (by omega) hl
  · rw [htk, List.pairwise_append]
    refine ⟨h.lt, List.pairwise_singleton _ _, fun a ha b hb => ?_⟩
    rw [List.mem_singleton] at hb
    subst hb
    obtain ⟨j, a1, a2, rfl⟩ := mem_take_ix.1 ((h.mem a).1 ha)
    exact Int.lt_of_le_of_lt (sorted_le hs (by omega) (by omega)) hlt
  · rw [htk, List.mem_append, List.mem_singleton, h.mem, take_ix hp, List.mem_append, List.mem_singleton]
  · rw [Nat.add_sub_cancel, Nat.add_sub_cancel, ix_set hkm, if_pos rfl]
theorem CmpS.start {l : List Int} {k : Nat} (hk : 1 ≤ k) (hl : k < l.length) (hp : (l.take k).Pairwise (· < ·)) (he : ix l k = ix l (k - 1)) : CmpS l l k (k + 1) := by
  refine ⟨rfl, hk, by omega, by omega, fun _ _ _ => rfl, hp, fun x => ?_, by rw [Nat.add_sub_cancel, he]⟩
  rw [mem_take_ix, mem_take_ix]
  constructor
  · rintro ⟨j, a, b, c⟩; exact ⟨j, by omega, b, c⟩
  · rintro ⟨j, a, b, c⟩
    by_cases hj : j = k
    · subst hj; exact ⟨j - 1, by omega, by omega, by rw [c, he]⟩
    · exact ⟨j, by omega, b, c⟩
theorem take_lt_succ {l : List Int} {k : Nat} (hs : l.Pairwise (· ≤ ·)) (hk : 1 ≤ k) (hl : k < l.length) (hp : (l.take k).Pairwise (· < ·)) (hne : ix l k ≠ ix l (k - 1)) : (l.take (k + 1)).Pairwise (· < ·) := by
  rw [take_ix hl, List.pairwise_append]
  refine ⟨hp, List.pairwise_singleton _ _, fun a ha b hb => ?_⟩
  rw [List.mem_singleton] at hb
  subst hb
  obtain ⟨j, a1, a2, rfl⟩ := mem_take_ix.1 ha
  have h1 := sorted_le hs (i := j) (j := k - 1) (by omega) (by omega)
  have h2 := sorted_le hs (i := k - 1) (j := k) (by omega) hl
  omega
end Go.Proofs

/-! slices.Compact: the walk. -/
namespace Go.Proofs
open Go Go.Ab
variable [LoopTab]
def CompAns (l : List Int) (A : AH) (β : Nat) (u : AV) (A' : AH) : Prop := (∃ r, IntSl A' u r ∧ r.Pairwise (· < ·) ∧ ∀ x, x ∈ r ↔ x ∈ l) ∧ A'.next = A.next ∧ ∀ γ, γ ≠ β → A'.get γ = A.get γ
def CpInv (A0 : AH) (v : AV) (l : List Int) (m : Nat) (e : En) (A : AH) : Prop := ∃ k : Nat, m = l.length - k ∧ 1 ≤ k ∧ k ≤ l.length ∧ e.get 0 = v ∧ e.get 3 = IV k ∧ A = A0 ∧ (l.take k).Pairwise (· < ·)
structure CpS (A0 A : AH) (β : Nat) (v : AV) (l : List Int) (e : En) (k p : Nat) (M : List Int) : Prop where
  e0 : e.get 0 = v
  e3 : e.get 3 = IV k
  c : CmpS l M k p
  get : A.get β = some (.cells (M.map IV))
  next : A.next = A0.next
  other : ∀ γ, γ ≠ β → A.get γ = A0.get γ
def CpInv2 (A0 : AH) (β k0 N : Nat) (ex : Bool) (v : AV) (l : List Int) (m : Nat) (e : En) (A : AH) : Prop := ∃ k d M, m = N - d ∧ 1 ≤ d ∧ d ≤ N ∧ e.get 4 = .slice β k0 N N ex 1 ∧ e.get 5 = IV d ∧ CpS A0 A β v l e k (k0 + d) M
def CpOut (A0 : AH) (β : Nat) (v : AV) (l : List Int) (x : Ex) (e : En) (A : AH) : Prop := x = .exit 2 ∧ ∃ k M, CpS A0 A β v l e k l.length M
theorem compact_spec (A : AH) (β n : Nat) (ex : Bool) (l : List Int) (hg : A.get β = some (.cells (l.map IV))) (hn : l.length = n) (hb : n ≤ 1000000) (hlt : β < A.next) (hs : l.Pairwise (· ≤ ·)) : FnW Tryz.prog 17 [.slice β 0 n n ex 1] A fun u A' => CompAns l A β u A' := by
  have hI : IntSl A (.slice β 0 n n ex 1) l := ⟨.inr ⟨β, 0, n, ex, l.map IV, by rw [hn], by rw [hg]; rfl, by simp, by rw [Nat.mul_one, List.drop_zero, ← List.length_map IV, List.take_length], hlt, by omega⟩, by rw [Most_eq]; omega⟩
  have hidx : ∀ j, j < n → idxV Tryz.prog 36 (.slice β 0 n n ex 1) (.int .i64 (j : Int)) = some (.ptr β j) := fun j hj => by
    have := idxV_slice (o := 0) (c := n) (ex := ex) (k := .i64) (β := β) Tryz.underlying36 Tryz.sz3 hj
    rw [this]; simp
  have hld : ∀ j, j < l.length → loadA Tryz.prog A 3 (.ptr β j) = some (IV (ix l j)) := fun j hj => by
    rw [loadA_of (by rw [hg]; rfl), partA_one Tryz.sh3, List.getElem?_map, List.getElem?_eq_getElem hj, Option.map_some, ← ix_eq hj]
  refine FnW.body Tryz.func17 (by decide) rfl Tryz.ntmps17 ?_
  generalize hE : bindArgs _ 0 _ = E
  have a0 := (congrArg (fun e => En.get e 0) hE).symm
  simp [bindArgs, kept, En.get_bind] at a0
  clear hE
  refine W.seq ?_
  (refine W.region (by rfl) ?_; (repeat (first | (refine OpsW.step rfl ?_; simp [opV]; done) | (refine OpsW.step rfl ?_; simp [opV]) | (refine OpsW.step ?_ ?_; (focus (simp [wantedA]; done)); simp [opV]) | (refine OpsW.un ?_ ?_; (focus (simp [wantedA]; done))))); (refine OpsW.nil ?_; try simp only [andThen, endBlock]))
  by_cases h2 : (l.length : Int) < 2
  · ((try simp only [andThen, endBlock, if_true]); repeat (first | with_reducible refine W.seq ?_ | with_reducible refine W.block ?_ | (refine W.region (by rfl) ?_; (repeat (first | (refine OpsW.step rfl ?_; simp [opV, a0, IntSl.len hI (P := Tryz.prog) Tryz.underlying36, h2]; done) | (refine OpsW.step rfl ?_; simp [opV, a0, IntSl.len hI (P := Tryz.prog) Tryz.underlying36, h2]) | (refine OpsW.step ?_ ?_; (focus (simp [wantedA, a0, IntSl.len hI (P := Tryz.prog) Tryz.underlying36, h2]; done)); simp [opV, a0, IntSl.len hI (P := Tryz.prog) Tryz.underlying36, h2]) | (refine OpsW.un ?_ ?_; (focus (simp [wantedA, a0, IntSl.len hI (P := Tryz.prog) Tryz.underlying36, h2]; done))))); (refine OpsW.nil ?_; try simp only [andThen, endBlock]))))
    (refine W.cond true ?_ ?_; (focus (simp [h2]; done)); simp only [if_true])
    ((try simp only [andThen, endBlock, if_true]); repeat (first | with_reducible refine W.seq ?_ | with_reducible refine W.block ?_ | (refine W.region (by rfl) ?_; (repeat (first | (refine OpsW.step rfl ?_; simp [opV, a0]; done) | (refine OpsW.step rfl ?_; simp [opV, a0]) | (refine OpsW.step ?_ ?_; (focus (simp [wantedA, a0]; done)); simp [opV, a0]) | (refine OpsW.un ?_ ?_; (focus (simp [wantedA, a0]; done))))); (refine OpsW.nil ?_; try simp only [andThen, endBlock]))))
    (refine W.ret ?_; try simp only [andThen, endBlock])
    refine ⟨.inr rfl, [.slice β 0 n n ex 1], by simp [Tryz.f17, resultsA, resultA], ?_⟩
    refine ⟨⟨l, hI, ?_, fun _ => Iff.rfl⟩, rfl, fun _ _ => rfl⟩
    match l, h2 with
    | [], _ => exact List.Pairwise.nil
    | [x], _ => exact List.pairwise_singleton _ _
    | x :: y :: t, h2 => simp at h2; omega
  ((try simp only [andThen, endBlock, if_true]); repeat (first | with_reducible refine W.seq ?_ | with_reducible refine W.block ?_ | (refine W.region (by rfl) ?_; (repeat (first | (refine OpsW.step rfl ?_; simp [opV, a0, IntSl.len hI (P := Tryz.prog) Tryz.underlying36]; done) | (refine OpsW.step rfl ?_; simp [opV, a0, IntSl.len hI (P := Tryz.prog) Tryz.underlying36]) | (refine OpsW.step ?_ ?_; (focus (simp [wantedA, a0, IntSl.len hI (P := Tryz.prog) Tryz.underlying36]; done)); simp [opV, a0, IntSl.len hI (P := Tryz.prog) Tryz.underlying36]) | (refine OpsW.un ?_ ?_; (focus (simp [wantedA, a0, IntSl.len hI (P := Tryz.prog) Tryz.underlying36]; done))))); (refine OpsW.nil ?_; try simp only [andThen, endBlock]))))
  (refine W.cond false ?_ ?_; (focus (simp [h2]; done)); simp only [Bool.false_eq_true, if_false])
  (refine W.skip ?_; try simp only [andThen, endBlock])
  ((try simp only [andThen, endBlock, if_true]); repeat (first | with_reducible refine W.seq ?_ | with_reducible refine W.block ?_ | (refine W.region (by rfl) ?_; (repeat (first | (refine OpsW.step rfl ?_; simp [opV]; done) | (refine OpsW.step rfl ?_; simp [opV]) | (refine OpsW.step ?_ ?_; (focus (simp [wantedA]; done)); simp [opV]) | (refine OpsW.un ?_ ?_; (focus (simp [wantedA]; done))))); (refine OpsW.nil ?_; try simp only [andThen, endBlock]))))
  refine W.loop ?_
  have h1 : (l.take 1).Pairwise (· < ·) := by
    match l with
    | [] => exact List.Pairwise.nil
    | x :: t => exact List.pairwise_singleton _ _
  refine LW.induct (CpInv A (.slice β 0 n n ex 1) l) ?_ _ _ A ⟨1, rfl, Nat.le_refl _, by omega, by simp [a0], by simp, rfl, h1⟩
  rintro m e A1 ⟨k, rfl, hk1, hkl, e0, e3, rfl, hp⟩
  ((try simp only [andThen, endBlock, if_true]); repeat (first | with_reducible refine W.seq ?_ | with_reducible refine W.block ?_ | (refine W.region (by rfl) ?_; (repeat (first | (refine OpsW.step rfl ?_; simp [opV, e0, e3, IntSl.len hI (P := Tryz.prog) Tryz.underlying36]; done) | (refine OpsW.step rfl ?_; simp [opV, e0, e3, IntSl.len hI (P := Tryz.prog) Tryz.underlying36]) | (refine OpsW.step ?_ ?_; (focus (simp [wantedA, e0, e3, IntSl.len hI (P := Tryz.prog) Tryz.underlying36]; done)); simp [opV, e0, e3, IntSl.len hI (P := Tryz.prog) Tryz.underlying36]) | (refine OpsW.un ?_ ?_; (focus (simp [wantedA, e0, e3, IntSl.len hI (P := Tryz.prog) Tryz.underlying36]; done))))); (refine OpsW.nil ?_; try simp only [andThen, endBlock]))))
  by_cases hlt : k < l.length
  · (refine W.cond true ?_ ?_; (focus (simp [hlt]; done)); simp only [if_true])
    (refine W.skip ?_; try simp only [andThen, endBlock])
    have hw : IntKind.i64.wrap ((k : Int) - 1) = ((k - 1 : Nat) : Int) := wrap_pred (n := l.length) (by omega) hlt (by rw [Most_eq]; omega)
    have hkm : k - 1 < l.length := by omega
    by_cases hd : ix l k = ix l (k - 1)
    rotate_left
    · ((try simp only [andThen, endBlock, if_true]); repeat (first | with_reducible refine W.seq ?_ | with_reducible refine W.block ?_ | (refine W.region (by rfl) ?_; (repeat (first | (refine OpsW.step rfl ?_; simp [opV]; done) | (refine OpsW.step rfl ?_; simp [opV]) | (refine OpsW.step ?_ ?_; (focus (simp [wantedA]; done)); simp [opV]) | (refine OpsW.un ?_ ?_; (focus (simp [wantedA]; done))))); (refine OpsW.nil ?_; try simp only [andThen, endBlock]))))
      (refine W.drawnS mixedP self0_ok [(0, 0), (1, 0), (2, 0), (3, 0), (4, 0), (5, 0), (6, 0), (7, 0), (8, 0), (9, 0)] (by rfl) (by kernel_rfl) ?_; (repeat (first | (refine RSW.step rfl rfl ?_; simp [stepV, cls, e0, e3, hw, hidx k (by omega), hidx (k - 1) (by omega), hld k hlt, hld (k - 1) hkm, hd]) | (refine RSW.step rfl ?_ ?_; (focus (simp [wantedA, e0, e3, hw, hidx k (by omega), hidx (k - 1) (by omega), hld k hlt, hld (k - 1) hkm, hd]; done)); simp [stepV, cls, e0, e3, hw, hidx k (by omega), hidx (k - 1) (by omega), hld k hlt, hld (k - 1) hkm, hd]) | (refine RSW.un rfl ?_ ?_ ?_; (focus (simp [wantedA, e0, e3, hw, hidx k (by omega), hidx (k - 1) (by omega), hld k hlt, hld (k - 1) hkm, hd]; done)); (focus (simp [cls]; done))))); refine RSW.nil ?_; try simp only [andThen, endBlock])
      (refine W.cond false ?_ ?_; (focus (simp; done)); simp only [Bool.false_eq_true, if_false])
      (refine W.skip ?_; try simp only [andThen, endBlock])
      ((try simp only [andThen, endBlock, if_true]); repeat (first | with_reducible refine W.seq ?_ | with_reducible refine W.block ?_ | (refine W.region (by rfl) ?_; (repeat (first | (refine OpsW.step rfl ?_; simp [opV, e3]; done) | (refine OpsW.step rfl ?_; simp [opV, e3]) | (refine OpsW.step ?_ ?_; (focus (simp [wantedA, e3]; done)); simp [opV, e3]) | (refine OpsW.un ?_ ?_; (focus (simp [wantedA, e3]; done))))); (refine OpsW.nil ?_; try simp only [andThen, endBlock]))))
      exact ⟨_, by omega, k + 1, rfl, by omega, by omega, by simp [e0], by simp [wrap_succ hlt hI.2], rfl, take_lt_succ hs hk1 hlt hp hd⟩
    ((try simp only [andThen, endBlock, if_true]); repeat (first | with_reducible refine W.seq ?_ | with_reducible refine W.block ?_ | (refine W.region (by rfl) ?_; (repeat (first | (refine OpsW.step rfl ?_; simp [opV]; done) | (refine OpsW.step rfl ?_; simp [opV]) | (refine OpsW.step ?_ ?_; (focus (simp [wantedA]; done)); simp [opV]) | (refine OpsW.un ?_ ?_; (focus (simp [wantedA]; done))))); (refine OpsW.nil ?_; try simp only [andThen, endBlock]))))
    (refine W.drawnS mixedP self0_ok [(0, 0), (1, 0), (2, 0), (3, 0), (4, 0), (5, 0), (6, 0), (7, 0), (8, 0), (9, 0)] (by rfl) (by kernel_rfl) ?_; (repeat (first | (refine RSW.step rfl rfl ?_; simp [stepV, cls, e0, e3, hw, hidx k (by omega), hidx (k - 1) (by omega), hld k hlt, hld (k - 1) hkm, hd]) | (refine RSW.step rfl ?_ ?_; (focus (simp [wantedA, e0, e3, hw, hidx k (by omega), hidx (k - 1) (by omega), hld k hlt, hld (k - 1) hkm, hd]; done)); simp [stepV, cls, e0, e3, hw, hidx k (by omega), hidx (k - 1) (by omega), hld k hlt, hld (k - 1) hkm, hd]) | (refine RSW.un rfl ?_ ?_ ?_; (focus (simp [wantedA, e0, e3, hw, hidx k (by omega), hidx (k - 1) (by omega), hld k hlt, hld (k - 1) hkm, hd]; done)); (focus (simp [cls]; done))))); refine RSW.nil ?_; try simp only [andThen, endBlock])
    (refine W.cond true ?_ ?_; (focus (simp; done)); simp only [if_true])
    have hr := rest_own (β := β) (n := n) (kd := .i64) (ex := ex) Tryz.underlying36 Tryz.sz3 (by omega : k < n)
    ((try simp only [andThen, endBlock, if_true]); repeat (first | with_reducible refine W.seq ?_ | with_reducible refine W.block ?_ | (refine W.region (by rfl) ?_; (repeat (first | (refine OpsW.step rfl ?_; simp [opV, e0, e3, opA_rest _ _ _ Tryz.underlying36, hr]; done) | (refine OpsW.step rfl ?_; simp [opV, e0, e3, opA_rest _ _ _ Tryz.underlying36, hr]) | (refine OpsW.step ?_ ?_; (focus (simp [wantedA, e0, e3, opA_rest _ _ _ Tryz.underlying36, hr]; done)); simp [opV, e0, e3, opA_rest _ _ _ Tryz.underlying36, hr]) | (refine OpsW.un ?_ ?_; (focus (simp [wantedA, e0, e3, opA_rest _ _ _ Tryz.underlying36, hr]; done))))); (refine OpsW.nil ?_; try simp only [andThen, endBlock]))))
    obtain ⟨N, hN⟩ : ∃ N, N = n - k := ⟨_, rfl⟩
    refine W.mono (Q := CpOut A1 β (.slice β 0 n n ex 1) l) ?_ ?_
    · refine W.loop ?_
      refine LW.induct (CpInv2 A1 β k N ex (.slice β 0 n n ex 1) l) ?_ _ _ A1 ⟨k, 1, l, rfl, Nat.le_refl _, by omega, by simp [hN], by simp, by simp [e0], by simp [e3], CmpS.start hk1 hlt hp hd, hg, rfl, fun _ _ => rfl⟩
      rintro m e A2 ⟨q, d, M, rfl, hd1, hdN, e4, e5, s⟩
      obtain ⟨e0, e3, c, hget, hnx, hoth⟩ := s
      ((try simp only [andThen, endBlock, if_true]); repeat (first | with_reducible refine W.seq ?_ | with_reducible refine W.block ?_ | (refine W.region (by rfl) ?_; (repeat (first | (refine OpsW.step rfl ?_; simp [opV, e4, e5]; done) | (refine OpsW.step rfl ?_; simp [opV, e4, e5]) | (refine OpsW.step ?_ ?_; (focus (simp [wantedA, e4, e5]; done)); simp [opV, e4, e5]) | (refine OpsW.un ?_ ?_; (focus (simp [wantedA, e4, e5]; done))))); (refine OpsW.nil ?_; try simp only [andThen, endBlock]))))
      by_cases hdt : d < N
      · (refine W.cond true ?_ ?_; (focus (simp [hdt]; done)); simp only [if_true])
        (refine W.skip ?_; try simp only [andThen, endBlock])
        have hpl : k + d < l.length := by omega
        have cl := c.len
        have ckp := c.kp
        have hw2 : IntKind.i64.wrap ((d : Int) - 1) = ((d - 1 : Nat) : Int) := wrap_pred (n := N) (by omega) hdt (by rw [Most_eq]; omega)
        have hi1 : idxV Tryz.prog 36 (.slice β k N N ex 1) (.int .i64 (d : Int)) = some (.ptr β (k + d)) := by
          have := idxV_slice (o := k) (c := N) (ex := ex) (k := .i64) (β := β) Tryz.underlying36 Tryz.sz3 hdt
          rw [this, Nat.mul_one]
        have hi2 : idxV Tryz.prog 36 (.slice β k N N ex 1) (.int .i64 ((d - 1 : Nat) : Int)) = some (.ptr β (k + (d - 1))) := by
          have := idxV_slice (o := k) (c := N) (ex := ex) (k := .i64) (β := β) Tryz.underlying36 Tryz.sz3 (by omega : d - 1 < N)
          rw [this, Nat.mul_one]
        have hL : ∀ j, j < l.length → k + d - 1 ≤ j → loadA Tryz.prog A2 3 (.ptr β j) = some (IV (ix l j)) := fun j hj hge => by
          rw [loadA_of (by rw [hget]; rfl), partA_one Tryz.sh3, List.getElem?_map, List.getElem?_eq_getElem (by omega), Option.map_some, ← ix_eq (by omega), c.old j hge hj]
        have hkd : k + (d - 1) = k + d - 1 := by omega
        have l1 := hL (k + d) hpl (by omega)
        have l2 := hL (k + (d - 1)) (by omega) (by omega)
        by_cases hdd : ix l (k + d) = ix l (k + (d - 1))
        · ((try simp only [andThen, endBlock, if_true]); repeat (first | with_reducible refine W.seq ?_ | with_reducible refine W.block ?_ | (refine W.region (by rfl) ?_; (repeat (first | (refine OpsW.step rfl ?_; simp [opV]; done) | (refine OpsW.step rfl ?_; simp [opV]) | (refine OpsW.step ?_ ?_; (focus (simp [wantedA]; done)); simp [opV]) | (refine OpsW.un ?_ ?_; (focus (simp [wantedA]; done))))); (refine OpsW.nil ?_; try simp only [andThen, endBlock]))))
          (refine W.drawnS mixedP self0_ok [(0, 0), (1, 0), (2, 0), (3, 0), (4, 0), (5, 0), (6, 0), (7, 0), (8, 0), (9, 0)] (by rfl) (by kernel_rfl) ?_; (repeat (first | (refine RSW.step rfl rfl ?_; simp [stepV, cls, e4, e5, hw2, hi1, hi2, l1, l2, hdd]) | (refine RSW.step rfl ?_ ?_; (focus (simp [wantedA, e4, e5, hw2, hi1, hi2, l1, l2, hdd]; done)); simp [stepV, cls, e4, e5, hw2, hi1, hi2, l1, l2, hdd]) | (refine RSW.un rfl ?_ ?_ ?_; (focus (simp [wantedA, e4, e5, hw2, hi1, hi2, l1, l2, hdd]; done)); (focus (simp [cls]; done))))); refine RSW.nil ?_; try simp only [andThen, endBlock])
          (refine W.cond false ?_ ?_; (focus (simp; done)); simp only [Bool.false_eq_true, if_false])
          (refine W.skip ?_; try simp only [andThen, endBlock])
          ((try simp only [andThen, endBlock, if_true]); repeat (first | with_reducible refine W.seq ?_ | with_reducible refine W.block ?_ | (refine W.region (by rfl) ?_; (repeat (first | (refine OpsW.step rfl ?_; simp [opV, e5]; done) | (refine OpsW.step rfl ?_; simp [opV, e5]) | (refine OpsW.step ?_ ?_; (focus (simp [wantedA, e5]; done)); simp [opV, e5]) | (refine OpsW.un ?_ ?_; (focus (simp [wantedA, e5]; done))))); (refine OpsW.nil ?_; try simp only [andThen, endBlock]))))
          exact ⟨_, by omega, q, d + 1, M, rfl, by omega, by omega, by simp [e4], by simp [wrap_succ hdt (by rw [Most_eq]; omega)], by simp [e0], by simp [e3], c.skip hpl (by rw [hdd, hkd]), hget, hnx, hoth⟩
        · ((try simp only [andThen, endBlock, if_true]); repeat (first | with_reducible refine W.seq ?_ | with_reducible refine W.block ?_ | (refine W.region (by rfl) ?_; (repeat (first | (refine OpsW.step rfl ?_; simp [opV]; done) | (refine OpsW.step rfl ?_; simp [opV]) | (refine OpsW.step ?_ ?_; (focus (simp [wantedA]; done)); simp [opV]) | (refine OpsW.un ?_ ?_; (focus (simp [wantedA]; done))))); (refine OpsW.nil ?_; try simp only [andThen, endBlock]))))
          (refine W.drawnS mixedP self0_ok [(0, 0), (1, 0), (2, 0), (3, 0), (4, 0), (5, 0), (6, 0), (7, 0), (8, 0), (9, 0)] (by rfl) (by kernel_rfl) ?_; (repeat (first | (refine RSW.step rfl rfl ?_; simp [stepV, cls, e4, e5, hw2, hi1, hi2, l1, l2, hdd]) | (refine RSW.step rfl ?_ ?_; (focus (simp [wantedA, e4, e5, hw2, hi1, hi2, l1, l2, hdd]; done)); simp [stepV, cls, e4, e5, hw2, hi1, hi2, l1, l2, hdd]) | (refine RSW.un rfl ?_ ?_ ?_; (focus (simp [wantedA, e4, e5, hw2, hi1, hi2, l1, l2, hdd]; done)); (focus (simp [cls]; done))))); refine RSW.nil ?_; try simp only [andThen, endBlock])
          (refine W.cond true ?_ ?_; (focus (simp; done)); simp only [if_true])
          have hi3 : idxV Tryz.prog 36 (.slice β 0 n n ex 1) (.int .i64 (q : Int)) = some (.ptr β q) := by
            have := idxV_slice (o := 0) (c := n) (ex := ex) (k := .i64) (β := β) Tryz.underlying36 Tryz.sz3 (by omega : q < n)
            rw [this]; simp
          have hst : storeA Tryz.prog A2 3 (.ptr β q) (IV (ix l (k + d))) = some (A2.put β (.cells ((M.set q (ix l (k + d))).map IV))) := by
            rw [List.map_set]
            exact arr_store hget Tryz.sz3 (opn_cells _) (by simp; omega)
          ((try simp only [andThen, endBlock, if_true]); repeat (first | with_reducible refine W.seq ?_ | with_reducible refine W.block ?_ | (refine W.region (by rfl) ?_; (repeat (first | (refine OpsW.step rfl ?_; simp [opV, e0, e3, e4, e5, hi1, hi3, l1, hst]; done) | (refine OpsW.step rfl ?_; simp [opV, e0, e3, e4, e5, hi1, hi3, l1, hst]) | (refine OpsW.step ?_ ?_; (focus (simp [wantedA, e0, e3, e4, e5, hi1, hi3, l1, hst]; done)); simp [opV, e0, e3, e4, e5, hi1, hi3, l1, hst]) | (refine OpsW.un ?_ ?_; (focus (simp [wantedA, e0, e3, e4, e5, hi1, hi3, l1, hst]; done))))); (refine OpsW.nil ?_; try simp only [andThen, endBlock]))))
          exact ⟨_, by omega, q + 1, d + 1, M.set q (ix l (k + d)), rfl, by omega, by omega, by simp [e4], by simp [wrap_succ hdt (by rw [Most_eq]; omega)], by simp [e0], by simp [wrap_succ (show q < l.length by omega) hI.2], c.keep hs hpl (fun h => hdd (by rw [h, hkd])), by rw [AH.get_put, if_pos rfl, List.map_set], hnx, fun γ hγ => by rw [AH.get_put, if_neg hγ]; exact hoth γ hγ⟩
      · (refine W.cond false ?_ ?_; (focus (simp [hdt]; done)); simp only [Bool.false_eq_true, if_false])
        (refine W.exit ?_; try simp only [andThen, endBlock, if_true])
        have : k + d = l.length := by omega
        rw [this] at c
        exact ⟨rfl, q, M, e0, e3, c, hget, hnx, hoth⟩
    · rintro x e A2 ⟨rfl, q, M, e0, e3, c, hget, hnx, hoth⟩
      have cl := c.len
      have ckp := c.kp
      have ck1 := c.k1
      have hr2 := rest_own (β := β) (n := n) (kd := .i64) (ex := ex) Tryz.underlying36 Tryz.sz3 (by omega : q < n)
      have hcl := clear_own (ex := ex) Tryz.underlying36 Tryz.sz3 Tryz.zc3 hget (by omega : M.length = n) (by omega : q < n)
      have hh := head_own (β := β) (n := n) (kd := .i64) (ex := ex) Tryz.underlying36 Tryz.sz3 (by omega : q ≤ n) (by omega)
      ((try simp only [andThen, endBlock, if_true]); repeat (first | with_reducible refine W.seq ?_ | with_reducible refine W.block ?_ | (refine W.region (by rfl) ?_; (repeat (first | (refine OpsW.step rfl ?_; simp [opV, e0, e3, opA_rest _ _ _ Tryz.underlying36, opA_head _ _ _ Tryz.underlying36, opA_clear, hr2, hcl, hh]; done) | (refine OpsW.step rfl ?_; simp [opV, e0, e3, opA_rest _ _ _ Tryz.underlying36, opA_head _ _ _ Tryz.underlying36, opA_clear, hr2, hcl, hh]) | (refine OpsW.step ?_ ?_; (focus (simp [wantedA, e0, e3, opA_rest _ _ _ Tryz.underlying36, opA_head _ _ _ Tryz.underlying36, opA_clear, hr2, hcl, hh]; done)); simp [opV, e0, e3, opA_rest _ _ _ Tryz.underlying36, opA_head _ _ _ Tryz.underlying36, opA_clear, hr2, hcl, hh]) | (refine OpsW.un ?_ ?_; (focus (simp [wantedA, e0, e3, opA_rest _ _ _ Tryz.underlying36, opA_head _ _ _ Tryz.underlying36, opA_clear, hr2, hcl, hh]; done))))); (refine OpsW.nil ?_; try simp only [andThen, endBlock]))))
      (refine W.ret ?_; try simp only [andThen, endBlock])
      refine ⟨.inr rfl, [.slice β 0 q n ex 1], by simp [Tryz.f17, resultsA, resultA], ?_⟩
      have hlen : (M.take q).length = q := by rw [List.length_take]; omega
      refine ⟨⟨M.take q, ⟨.inr ⟨β, 0, n, ex, _, by rw [hlen], by rw [AH.get_put, if_pos rfl]; rfl, ?_, ?_, by show β < A2.next; omega, by omega⟩, by rw [Most_eq]; omega⟩, c.lt, fun x => by rw [c.mem, List.take_length]⟩, hnx, fun γ hγ => by rw [AH.get_put, if_neg hγ]; exact hoth γ hγ⟩
      · simp; try omega
      · rw [hlen, Nat.mul_one, List.drop_zero, List.take_append_of_le_length (by simp; omega), List.map_take, List.take_take, Nat.min_self]
  · (refine W.cond false ?_ ?_; (focus (simp [hlt]; done)); simp only [Bool.false_eq_true, if_false])
    (refine W.exit ?_; try simp only [andThen, endBlock, if_true])
    ((try simp only [andThen, endBlock, if_true]); repeat (first | with_reducible refine W.seq ?_ | with_reducible refine W.block ?_ | (refine W.region (by rfl) ?_; (repeat (first | (refine OpsW.step rfl ?_; simp [opV, e0]; done) | (refine OpsW.step rfl ?_; simp [opV, e0]) | (refine OpsW.step ?_ ?_; (focus (simp [wantedA, e0]; done)); simp [opV, e0]) | (refine OpsW.un ?_ ?_; (focus (simp [wantedA, e0]; done))))); (refine OpsW.nil ?_; try simp only [andThen, endBlock]))))
    (refine W.ret ?_; try simp only [andThen, endBlock])
    refine ⟨.inr rfl, [.slice β 0 n n ex 1], by simp [Tryz.f17, resultsA, resultA], ?_⟩
    have : k = l.length := by omega
    rw [this, List.take_length] at hp
    exact ⟨⟨l, hI, hp, fun _ => Iff.rfl⟩, rfl, fun _ _ => rfl⟩
end Go.Proofs

/-! Duals: what the loop needs. -/
namespace Go.Ab
open Go
variable {P : Program} [LoopTab]
theorem selfC_other {g : FuncId} {as' : List AV} {B : AH} {r : CR} {s : Self} {f : FuncId} {x : List AV} {C : AH} (h : f ≠ g) : (selfC g as' B r s).call f x C = s.call f x C := @if_neg _ (Classical.propDecidable _) (fun e => h e.1) _ _ _
/-- calls of one function that answer true, whatever they are -/
noncomputable def selfE (P : Program) (g : FuncId) (s : Self) : Self := ⟨fun f x C => @ite _ (f = g ∧ CallOK P g x C (.done (.bool true) C)) (Classical.propDecidable _) (.done (.bool true) C) (s.call f x C), s.yield, s.loop⟩
theorem selfE_ok {g : FuncId} {s : Self} (hs : CallsOK P s) : CallsOK P (selfE P g s) := by
  refine ⟨fun f x C => ?_, fun β x C => hs.yield β x C⟩
  show CallOK P f x C (@ite _ (f = g ∧ CallOK P g x C (.done (.bool true) C)) (Classical.propDecidable _) (.done (.bool true) C) (s.call f x C))
  by_cases hc : f = g ∧ CallOK P g x C (.done (.bool true) C)
  · rw [@if_pos _ (Classical.propDecidable _) hc]
    obtain ⟨rfl, h⟩ := hc
    exact h
  · rw [@if_neg _ (Classical.propDecidable _) hc]; exact hs.call f x C
theorem selfE_call {g : FuncId} {s : Self} {x : List AV} {C : AH} (h : CallOK P g x C (.done (.bool true) C)) : (selfE P g s).call g x C = .done (.bool true) C := @if_pos _ (Classical.propDecidable _) ⟨rfl, h⟩ _ _ _
theorem selfE_other {g f : FuncId} {s : Self} {x : List AV} {C : AH} (h : f ≠ g) : (selfE P g s).call f x C = s.call f x C := @if_neg _ (Classical.propDecidable _) (fun e => h e.1) _ _ _

set_option exponentiation.threshold 2000 in
/-- nothing beyond the first 1024 -/
theorem Least.lt {n : Nat} {E : Nat → Nat → Prop} {G K X Y : Nat → Nat} (h : Least n E G K X Y) (hG : ∀ a, a < n → G a < 2 ^ 1024) : ∀ a, a < n → X a < 2 ^ 1024 := fun a ha => by
  have hS : Sol n E G K (fun a => X a % 2 ^ 1024) (fun a => Y a % 2 ^ 1024) := by
    refine ⟨fun a ha => ?_, fun s d hs hd he k hk => ?_⟩
    · show Y a % 2 ^ 1024 = _
      rw [h.1.1 a ha]
      refine Nat.eq_of_testBit_eq fun k => ?_
      rw [Nat.testBit_mod_two_pow, testBit_thr, testBit_thr, Nat.testBit_mod_two_pow]
      by_cases hk : k < 1024
      · simp [hk]
      · simp [hk, testBit_big (k := k) (hG a ha) (by omega)]
    · rw [Nat.testBit_mod_two_pow, Bool.and_eq_true] at hk ⊢
      exact ⟨hk.1, h.1.2 s d hs hd he k hk.2⟩
  refine lt_of_testBit (n := 1024) fun k hk => ?_
  rw [Bool.eq_false_iff]
  intro hb
  have := (h.2 _ _ hS a ha).1 k hb
  rw [Nat.testBit_mod_two_pow, Bool.and_eq_true] at this
  have := of_decide_eq_true this.1
  omega
end Go.Ab
namespace Go.Proofs
open Go Go.Ab
variable [LoopTab]
theorem sort_own (A0 A : AH) (w : AV) (L : List Int) (h : OwnI A0 A w L) (hx : Ext A0 A) (hb : L.length ≤ 1000000) : FnW Tryz.prog 15 [w] A fun u A' => u = .tup [] ∧ OwnI A0 A' w (srt L) ∧ Ext A0 A' := by
  rcases h with ⟨rfl, h2⟩ | ⟨β, n, ex, rfl, h1, h2, h3, h4⟩
  · have hL : L = [] := by simpa using h2
    subst hL
    refine ⟨.tup [], A, ?_, rfl, .inl ⟨rfl, by simp [srt]⟩, hx⟩
    intro v A' hv
    cases hv
    refine ⟨Nat.le_refl _, ⟨Tryz.f15, _, Tryz.func15, by decide, rfl⟩, fun ρ w argv hr hvs hwin => ?_⟩
    obtain ⟨av, rfl⟩ : ∃ av, argv = #[av] := by
      obtain ⟨l⟩ := argv
      cases l with
      | nil => exact hvs.elim
      | cons a l => cases l with
        | nil => exact ⟨a, rfl⟩
        | cons => exact hvs.2.elim
    have hva : av = .slice none 0 0 := hvs.1
    subst hva
    refine (Tryz.slices_Sort_int_none none 0 w).mono ?_
    rintro e w' ⟨rfl, rfl⟩
    exact ⟨_, ρ, rfl, ⟨#[], rfl, trivial⟩, Step.refl hr⟩
  · simp at h2
    refine FnW.mono (sort_spec A β n ex L h1 (by omega) (by omega)) ?_
    rintro u A' ⟨rfl, rfl⟩
    refine ⟨rfl, .inr ⟨β, n, ex, rfl, by rw [AH.get_put, if_pos rfl], by simp [srt_length, h2], h3, h4⟩, hx.put h3 _⟩
theorem compact_nil (A : AH) : FnW Tryz.prog 17 [.nilslice] A fun u A' => u = .nilslice ∧ A' = A := by
  have hI : IntSl A .nilslice [] := ⟨.inl ⟨.inl rfl, rfl, rfl⟩, by simp⟩
  refine FnW.body Tryz.func17 (by decide) rfl Tryz.ntmps17 ?_
  generalize hE : bindArgs _ 0 _ = E
  have a0 := (congrArg (fun e => En.get e 0) hE).symm
  simp [bindArgs, kept, En.get_bind] at a0
  clear hE
  refine W.seq ?_
  (refine W.region (by rfl) ?_; (repeat (first | (refine OpsW.step rfl ?_; simp [opV]; done) | (refine OpsW.step rfl ?_; simp [opV]) | (refine OpsW.step ?_ ?_; (focus (simp [wantedA]; done)); simp [opV]) | (refine OpsW.un ?_ ?_; (focus (simp [wantedA]; done))))); (refine OpsW.nil ?_; try simp only [andThen, endBlock]))
  ((try simp only [andThen, endBlock, if_true]); repeat (first | with_reducible refine W.seq ?_ | with_reducible refine W.block ?_ | (refine W.region (by rfl) ?_; (repeat (first | (refine OpsW.step rfl ?_; simp [opV, a0, IntSl.len hI (P := Tryz.prog) Tryz.underlying36]; done) | (refine OpsW.step rfl ?_; simp [opV, a0, IntSl.len hI (P := Tryz.prog) Tryz.underlying36]) | (refine OpsW.step ?_ ?_; (focus (simp [wantedA, a0, IntSl.len hI (P := Tryz.prog) Tryz.underlying36]; done)); simp [opV, a0, IntSl.len hI (P := Tryz.prog) Tryz.underlying36]) | (refine OpsW.un ?_ ?_; (focus (simp [wantedA, a0, IntSl.len hI (P := Tryz.prog) Tryz.underlying36]; done))))); (refine OpsW.nil ?_; try simp only [andThen, endBlock]))))
  (refine W.cond true ?_ ?_; (focus (simp; done)); simp only [if_true])
  ((try simp only [andThen, endBlock, if_true]); repeat (first | with_reducible refine W.seq ?_ | with_reducible refine W.block ?_ | (refine W.region (by rfl) ?_; (repeat (first | (refine OpsW.step rfl ?_; simp [opV, a0]; done) | (refine OpsW.step rfl ?_; simp [opV, a0]) | (refine OpsW.step ?_ ?_; (focus (simp [wantedA, a0]; done)); simp [opV, a0]) | (refine OpsW.un ?_ ?_; (focus (simp [wantedA, a0]; done))))); (refine OpsW.nil ?_; try simp only [andThen, endBlock]))))
  (refine W.ret ?_; try simp only [andThen, endBlock])
  refine ⟨.inr rfl, [.nilslice], by simp [Tryz.f17, resultsA, resultA], ?_⟩
  exact ⟨rfl, rfl⟩
theorem compact_own (A0 A : AH) (w : AV) (L : List Int) (h : OwnI A0 A w L) (hx : Ext A0 A) (hb : L.length ≤ 1000000) (hs : L.Pairwise (· ≤ ·)) : FnW Tryz.prog 17 [w] A fun u A' => (∃ r, IntSl A' u r ∧ r.Pairwise (· < ·) ∧ ∀ x, x ∈ r ↔ x ∈ L) ∧ Ext A0 A' := by
  rcases h with ⟨rfl, h2⟩ | ⟨β, n, ex, rfl, h1, h2, h3, h4⟩
  · have hL : L = [] := by simpa using h2
    subst hL
    refine FnW.mono (compact_nil A) ?_
    rintro u A' ⟨rfl, rfl⟩
    exact ⟨⟨[], ⟨.inl ⟨.inl rfl, rfl, rfl⟩, by simp⟩, List.Pairwise.nil, fun _ => Iff.rfl⟩, hx⟩
  · simp at h2
    refine FnW.mono (compact_spec A β n ex L h1 (by omega) (by omega) h4 hs) ?_
    rintro u A' ⟨g1, g2, g3⟩
    exact ⟨g1, by rw [g2]; exact hx.1, fun γ hγ => by rw [g3 γ (by omega)]; exact hx.2 γ hγ⟩

/-- all that the neighbours know, one behind the other -/
noncomputable def cat (I : Nat → Nat) (l : List Int) : List Int := l.flatMap fun b => lst (I b.toNat)
theorem cat_length (I : Nat → Nat) : ∀ l : List Int, (cat I l).length ≤ l.length * 1024
  | [] => by simp [cat]
  | b :: l => by
    have h1 := cat_length I l
    have h2 := lst_length (I b.toNat)
    simp only [cat, List.flatMap_cons, List.length_append, List.length_cons] at h1 ⊢
    omega
theorem cat_take {I : Nat → Nat} {l : List Int} {j : Nat} (h : j < l.length) : cat I (l.take (j + 1)) = cat I (l.take j) ++ lst (I (ix l j).toNat) := by
  rw [take_ix h]; simp [cat]
/-- sorted and compacted, they are what the point knows -/
theorem dual_eq {nx gs ks : List (List Int)} {I O : Nat → Nat} (hv : ValidF nx) (h : Least nx.length (Edge false nx) (GK gs) (GK ks) O I) {i : Nat} (hi : i < nx.length) {r : List Int} (hr : r.Pairwise (· < ·)) (hm : ∀ x, x ∈ r ↔ x ∈ srt (cat I (lx nx i))) : r = lst (O i) := by
  refine sorted_ext hr (lst_sorted _) fun x => ?_
  rw [hm, mem_srt, cat, List.mem_flatMap, mem_lst]
  constructor
  · rintro ⟨b, hb, hx⟩
    obtain ⟨k, h1, h2, rfl⟩ := mem_lst.1 hx
    have := hv.2.2.2 i hi b hb
    refine ⟨k, h1, h.1.2 b.toNat i (by omega) hi ?_ k h2, rfl⟩
    show ((b.toNat : Nat) : Int) ∈ lx nx i
    have e : ((b.toNat : Nat) : Int) = b := by omega
    rw [e]; exact hb
  · rintro ⟨k, h1, h2, rfl⟩
    obtain ⟨s, hs, he, hb⟩ := Least.from h hi h2
    exact ⟨(s : Int), he, by rw [Int.toNat_natCast]; exact mem_lst_nat.2 ⟨h1, hb⟩⟩
theorem setV_gk {A : AH} {v : AV} {ls : List (List Int)} {vs : List AV} {n i : Nat} (h : LL A v ls vs) (hS : SetsL ls n) (hi : i < n) : SetV A (vx vs i) (GK ls i) := by
  have hl := hS.1
  have hs := hS.2 i (by omega)
  refine ⟨?_, bitsOf_lt hs⟩
  rw [GK, lst_bitsOf hs]
  exact h.el i (by omega)
/-- the two solutions, one the other's image -/
theorem dual_unique {nx gs ks : List (List Int)} {I O I2 O2 : Nat → Nat} (hv : ValidF nx) (hg : SetsL gs nx.length) (hk : SetsL ks nx.length) (h : Least nx.length (Edge false nx) (GK gs) (GK ks) O I)
    (h2 : Least nx.length (Edge true (revF nx)) (GK (swp [] gs)) (GK (swp [] ks)) I2 O2) : swp [] (rows nx.length I) = rows nx.length O2 ∧ swp [] (rows nx.length O) = rows nx.length I2 := by
  have hn := hv.1
  have hp := Least.perm (π := oth) oth_oth (fun a ha => oth_lt hn ha) (fun s d hs hd => edge_rev hv hs hd) h
  have eG : (fun a => GK gs (oth a)) = GK (swp [] gs) := funext fun a => (GK_swp (by have := hg.1; omega) a).symm
  have eK : (fun a => GK ks (oth a)) = GK (swp [] ks) := funext fun a => (GK_swp (by have := hk.1; omega) a).symm
  rw [eG, eK] at hp
  have hu := hp.unique h2
  rw [rows_swp hn, rows_swp hn]
  exact ⟨rows_congr fun a ha => (hu a ha).2, rows_congr fun a ha => (hu a ha).1⟩
end Go.Proofs
