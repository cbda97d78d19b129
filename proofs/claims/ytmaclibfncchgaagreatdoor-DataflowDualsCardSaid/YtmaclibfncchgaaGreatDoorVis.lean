import Derived.Test.YtmaclibfncchgaaGreatDoorFacts
set_option linter.all false
namespace Go.Proofs
open Go Go.Ab
def isI (x : AV) : Bool := match x with | .int .i64 _ => true | _ => false
theorem isI_some {x : AV} (h : isI x = true) : ∃ n, x = .int .i64 n := by
  unfold isI at h
  split at h
  · exact ⟨_, rfl⟩
  · cases h
/-- a list of ints of the heap, or none -/
noncomputable def okL (A : AH) (v : AV) : Bool :=
  match v with
  | .nilslice => true
  | .slice β off len _ _ 1 => (match A.get β with | some (.cells cs) => (cs.all isI).and (Nat.ble (Nat.add off len) cs.length) | _ => false)
  | _ => false
theorem okL_some {A : AH} {v : AV} (h : okL A v = true) : v = .nilslice ∨ ∃ β off len cap ex cs, v = .slice β off len cap ex 1 ∧ A.get β = some (.cells cs) ∧ (∀ x ∈ cs, ∃ n, x = .int .i64 n) ∧ off + len ≤ cs.length := by
  unfold okL at h
  split at h
  · exact .inl rfl
  · rename_i β off len cap ex
    split at h
    · rename_i cs hg
      simp only [Bool.and_eq_true, List.all_eq_true, nble, decide_eq_true_eq] at h
      exact .inr ⟨β, off, len, cap, ex, cs, rfl, hg, fun x hx => isI_some (h.1 x hx), h.2⟩
    · cases h
  · cases h
theorem okL_of {A : AH} {β off len cap : Nat} {ex : Bool} {cs : List AV} (hg : A.get β = some (.cells cs)) (hc : ∀ x ∈ cs, ∃ n, x = .int .i64 n) (hl : off + len ≤ cs.length) : okL A (.slice β off len cap ex 1) = true := by
  simp only [okL, hg, Bool.and_eq_true, List.all_eq_true, nble, decide_eq_true_eq]
  exact ⟨fun x hx => by obtain ⟨n, rfl⟩ := hc x hx; rfl, hl⟩
theorem okL_put {A : AH} {v : AV} {β : Nat} {cs : List AV} (h : okL A v = true) (hc : ∀ x ∈ cs, ∃ n, x = .int .i64 n) {cs0 : List AV} (h0 : A.get β = some (.cells cs0)) (hl : cs.length = cs0.length) : okL (A.put β (.cells cs)) v = true := by
  rcases okL_some h with rfl | ⟨γ, off, len, cap, ex, cs', rfl, g1, g2, g3⟩
  · rfl
  · by_cases e : γ = β
    · subst e
      rw [h0] at g1; injection g1 with g1; injection g1 with g1; subst g1
      exact okL_of (by rw [AH.get_put, if_pos rfl]) hc (by omega)
    · exact okL_of (by rw [AH.get_put, if_neg e]; exact g1) g2 g3
theorem okL_other {A : AH} {v : AV} {r : Nat} {x y : AObj} (h : okL A v = true) (h0 : A.get r = some x) (hx : ∀ cs, x ≠ .cells cs) : okL (A.put r y) v = true := by
  rcases okL_some h with rfl | ⟨γ, off, len, cap, ex, cs', rfl, g1, g2, g3⟩
  · rfl
  · have e : γ ≠ r := fun e => by subst e; rw [h0] at g1; injection g1 with g1; exact hx _ g1
    exact okL_of (by rw [AH.get_put, if_neg e]; exact g1) g2 g3
/-- the block of a list -/
def blk (v : AV) : Option Nat := match v with | .slice β _ _ _ _ _ => some β | _ => none

variable [LoopTab]
/-- A heap of which some is forgotten. -/
theorem Step.forget {A A' A'' : AH} {ρ ρ' : Rho} {w w' : World} (h : Step A ρ w A' ρ' w') (hn : A''.next = A'.next) (hs : ∀ γ x, A''.get γ = some x → A'.get γ = some x ∨ (x = .dead ∧ ∃ y, A'.get γ = some y)) : Step A ρ w A'' ρ' w' where
  le := h.le
  win := by rw [hn]; exact h.win
  next := by rw [hn]; exact h.next
  hr := by
    refine ⟨fun γ x hx => ?_, fun γ γ' x x' l l' h1 h2 h3 h4 h5 h6 h7 => ?_, fun γ x hx => ?_⟩
    · rcases hs γ x hx with h1 | ⟨rfl, y, h1⟩
      · exact h.hr.obj γ x h1
      · obtain ⟨b, base, sz, g1, _⟩ := h.hr.obj γ y h1
        exact ⟨b, base, sz, g1, trivial⟩
    · rcases hs γ x h1 with h1 | ⟨rfl, _⟩
      · rcases hs γ' x' h2 with h2 | ⟨rfl, _⟩
        · exact h.hr.inj γ γ' x x' l l' h1 h2 h3 h4 h5 h6 h7
        · cases h4
      · cases h3
    · rw [hn]
      rcases hs γ x hx with h1 | ⟨rfl, y, h1⟩
      · exact h.hr.top _ _ h1
      · exact h.hr.top _ _ h1
  size := h.size
  same := h.same
  img := fun k γ x l h1 h2 h3 h4 => by
    rcases hs γ x h1 with h1 | ⟨rfl, _⟩
    · exact h.img k γ x l h1 h2 h3 h4
    · exact (AObj.kin_dead h2).elim
  os := h.os
  output := h.output
  tape := h.tape

/-- the slots that the block turns -/
def visSlots : List Nat := [10, 11, 12, 81, 82, 83, 84, 85, 86, 87, 88, 89, 90, 91, 92, 93, 94, 95, 96, 97, 98]

/-- the entries' lists are lists of ints -/
def okEs (A : AH) (es : List (AV × AV × Nat)) : Prop := ∀ x ∈ es, okL A x.2.1 = true

theorem find_stamp {es : List (AV × AV × Nat)} {x : AV × AV × Nat} (h : x ∈ es) : ∃ y ∈ es, es.find? (fun z => Nat.beq z.2.2 x.2.2) = some y := by
  cases hq : es.find? (fun z => Nat.beq z.2.2 x.2.2) with
  | none =>
    have := List.find?_eq_none.1 hq x h
    simp at this
  | some y => exact ⟨y, List.mem_of_find?_eq_some hq, rfl⟩

theorem findA_ints {ies : List (AV × AV × Nat)} (h : ∀ x ∈ ies, isI x.1 = true ∧ isI x.2.1 = true) (n : Int) : ∀ i, (findA (.int .i64 n) ies i = some none) ∨ ∃ j m, findA (.int .i64 n) ies i = some (some (j, .int .i64 m)) := by
  induction ies with
  | nil => exact fun i => .inl rfl
  | cons x ies ih =>
    intro i
    obtain ⟨k, v, s⟩ := x
    obtain ⟨h1, h2⟩ := h _ List.mem_cons_self
    obtain ⟨a, ha⟩ := isI_some h1
    obtain ⟨b, hb⟩ := isI_some h2
    simp only at ha hb
    subst ha; subst hb
    simp only [findA, eqKey, if_true, intEq_eq]
    cases hq : (n == a) with
    | true => exact .inr ⟨i, b, rfl⟩
    | false => exact ih (fun x hx => h x (List.mem_cons_of_mem _ hx)) _

theorem lookup_ints {A : AH} {mi ic : Nat} {ies : List (AV × AV × Nat)} (hm : A.get mi = some (.map ies ic)) (h : ∀ x ∈ ies, isI x.1 = true ∧ isI x.2.1 = true) (n : Int) : ∃ m, lookupA Tryz.prog A 184 (.map mi) (.int .i64 n) false = some (.int .i64 m) := by
  unfold lookupA
  have hk : keyKind Tryz.prog 184 (.int .i64 n) = some 3 := by simp [keyKind]
  simp only [hk, mapFindA, hm]
  rcases findA_ints h n 0 with e | ⟨j, m, e⟩
  · simp only [e, Tryz.zv3]
    exact ⟨0, rfl⟩
  · simp only [e]
    exact ⟨m, rfl⟩

/-- behind the block -/
def VisPost (e0 : En) (A0 : AH) (r : Nat) (es : List (AV × AV × Nat)) (x : Ex) (e : En) (A : AH) : Prop := x = .normal ∧ (∀ t, t ∉ visSlots → e.get t = e0.get t) ∧ A.next = A0.next ∧
      (∀ γ, γ ≠ r → (∀ x ∈ es, blk x.2.1 ≠ some γ) → A.get γ = A0.get γ) ∧ (∃ y, A.get r = some y) ∧ ∀ γ, (∃ x ∈ es, blk x.2.1 = some γ) → ∃ y, A.get γ = some y
/-- at the head of the outer loop -/
def VisInv (e0 : En) (A0 : AH) (r m mi since clock ic : Nat) (es ies : List (AV × AV × Nat)) (k : Nat) (e : En) (A : AH) : Prop := ∃ seen last', k = (es.filter fun x => !(seen.any fun b => Nat.beq b x.2.2)).length ∧ (∀ t, t ∉ visSlots → e.get t = e0.get t) ∧ A.next = A0.next ∧ A.get r = some (.iter (some m) since seen last') ∧ (seen = [] ∨ last' = clock) ∧
    A.get m = some (.map es clock) ∧ A.get mi = some (.map ies ic) ∧ okEs A es ∧ (∀ γ, γ ≠ r → (∀ x ∈ es, blk x.2.1 ≠ some γ) → A.get γ = A0.get γ)
/-- at the head of the inner loop -/
def VisIn (e1 : En) (A1 : AH) (β off len cap : Nat) (ex : Bool) (n : Nat) (k : Nat) (e : En) (A : AH) : Prop := ∃ i cs, k = len - i ∧ i ≤ len ∧ e.get 87 = .int .i64 (i : Int) ∧ (∀ t, t ∉ visSlots → e.get t = e1.get t) ∧ e.get 10 = .slice β off len cap ex 1 ∧ e.get 85 = .slice β off len cap ex 1 ∧ e.get 86 = .int .i64 (len : Int) ∧
    A.get β = some (.cells cs) ∧ cs.length = n ∧ (∀ x ∈ cs, ∃ m, x = .int .i64 m) ∧ A.next = A1.next ∧ ∀ γ, γ ≠ β → A.get γ = A1.get γ
def VisOut (e1 : En) (A1 : AH) (v : AV) (x : Ex) (e : En) (A : AH) : Prop := x = .normal ∧ (∀ t, t ∉ visSlots → e.get t = e1.get t) ∧ A.next = A1.next ∧ (∀ γ, blk v ≠ some γ → A.get γ = A1.get γ) ∧ ∀ u, okL A1 u = true → okL A u = true

theorem visSlots_bind {e e1 : En} {t0 : Nat} {v : AV} (h : ∀ t, t ∉ visSlots → e.get t = e1.get t) (ht : t0 ∈ visSlots) : ∀ t, t ∉ visSlots → (bindE (some t0) e v).get t = e1.get t := fun t hn => by
  rw [get_bindE_some, if_neg (fun q => hn (by rw [← q]; exact ht))]; exact h t hn

theorem stamp_less {es : List (AV × AV × Nat)} {seen : List Nat} {x : AV × AV × Nat} (hx : x ∈ es) (hn : x.2.2 ∉ seen) : (es.filter fun z => !((seen ++ [x.2.2]).any fun b => Nat.beq b z.2.2)).length < (es.filter fun z => !(seen.any fun b => Nat.beq b z.2.2)).length := by
  have hle : ∀ l : List (AV × AV × Nat), (l.filter fun z => !((seen ++ [x.2.2]).any fun b => Nat.beq b z.2.2)).length ≤ (l.filter fun z => !(seen.any fun b => Nat.beq b z.2.2)).length := by
    intro l
    induction l with
    | nil => simp
    | cons z l ih =>
      simp only [List.filter_cons, List.any_append]
      cases h1 : seen.any fun b => Nat.beq b z.2.2
      · cases h2 : [x.2.2].any fun b => Nat.beq b z.2.2
        · simp only [Bool.or_false, Bool.not_false, if_true, List.length_cons]; simp only [List.any_append] at ih; omega
        · simp only [Bool.false_or, Bool.not_true, Bool.not_false, if_true, Bool.false_eq_true, if_false, List.length_cons]; simp only [List.any_append] at ih; omega
      · simp only [Bool.true_or, Bool.not_true, Bool.false_eq_true, if_false]; simp only [List.any_append] at ih; exact ih
  induction es with
  | nil => cases hx
  | cons z es ih =>
    by_cases hz : z.2.2 = x.2.2
    · have h1 : (seen.any fun b => Nat.beq b z.2.2) = false := by
        rw [any_contains, hz]; simpa using hn
      have h2 : ((seen ++ [x.2.2]).any fun b => Nat.beq b z.2.2) = true := by
        rw [any_contains, hz]; simp
      have := hle es
      rw [List.filter_cons, List.filter_cons, h1, h2]
      simp only [Bool.not_true, Bool.not_false, if_true, Bool.false_eq_true, if_false, List.length_cons]
      omega
    · rcases List.mem_cons.1 hx with rfl | hx
      · exact absurd rfl hz
      · have := ih hx
        have h2 : ((seen ++ [x.2.2]).any fun b => Nat.beq b z.2.2) = (seen.any fun b => Nat.beq b z.2.2) := by
          rw [any_contains, any_contains, Bool.eq_iff_iff]
          simp [hz]
        rw [List.filter_cons, List.filter_cons, h2]
        split
        · simp only [List.length_cons]; omega
        · exact this

set_option maxRecDepth 100000 in
theorem vis_block (body : Code) (hb : Holds 6 body (Tryz.f123.body.getD .skip)) (e0 : En) (A0 : AH) (r m mi since last clock ic : Nat) (es ies : List (AV × AV × Nat))
    (h1 : e0.get 80 = .ptr r 0) (h2 : e0.get 4 = .map mi) (h3 : A0.get r = some (.iter (some m) since [] last)) (h4 : A0.get m = some (.map es clock)) (h5 : A0.get mi = some (.map ies ic))
    (h6 : since ≤ clock) (h7 : ∀ x ∈ es, x.2.2 < since) (h8 : okEs A0 es) (h9 : ∀ x ∈ ies, isI x.1 = true ∧ isI x.2.1 = true) (h10 : ∀ x ∈ es, ∀ β off len cap ex, x.2.1 = .slice β off len cap ex 1 → len ≤ 1000000000) :
    DW Tryz.prog 105 true A0.next (.block 6 body) e0 A0 (VisPost e0 A0 r es) := by
  simp [Tryz.f123, Holds] at hb
  subst hb
  refine DW.block ?_
  refine DW.loop ?_
  refine DLW.induct (VisInv e0 A0 r m mi since clock ic es ies) ?_ _ e0 A0 ⟨[], last, rfl, fun _ _ => rfl, rfl, h3, .inl rfl, h4, h5, h8, fun _ _ _ => rfl⟩
  rintro k e A ⟨seen, last', rfl, i1, i2, i3, i4, i5, i6, i7, i8⟩
  have hbad : (!seen.isEmpty && !es.isEmpty && es.all fun x => Nat.ble last' x.2.2) = false := by
    rcases i4 with rfl | rfl
    · rfl
    · cases es with
      | nil => simp
      | cons x es =>
        have := h7 x List.mem_cons_self
        have hx : Nat.ble last' x.2.2 = false := by rw [nble]; simp; omega
        simp [hx]
  have e80 : e.get 80 = .ptr r 0 := by rw [i1 80 (by simp [visSlots])]; exact h1
  have e4 : e.get 4 = .map mi := by rw [i1 4 (by simp [visSlots])]; exact h2
  refine DW.seq ?_
  refine DW.region_next (by rfl) rfl rfl rfl (it := .tmp 80) e80 i3 i5 hbad h7 (Nat.le_of_eq i2) ?_ ?_
  · intro hall
    refine OpsW.step rfl ?_
    simp [opV]
    refine OpsW.nil ⟨by omega, ?_⟩
    simp only [andThen]
    refine DW.seq ?_
    refine DW.cond false (by simp) ?_
    simp only [Bool.false_eq_true, if_false]
    refine DW.of_W (W.exit ⟨by omega, ?_⟩)
    simp only [andThen, endBlock, if_true]
    refine ⟨rfl, visSlots_bind (visSlots_bind i1 (by simp [visSlots])) (by simp [visSlots]), i2, i8, ⟨_, i3⟩, ?_⟩
    rintro γ ⟨x, hx, hbx⟩
    rcases okL_some (i7 x hx) with hv | ⟨β, off, len, cap, ex, cs, hv, g1, _⟩
    · rw [hv] at hbx; cases hbx
    · rw [hv] at hbx; injection hbx with hbx; subst hbx; exact ⟨_, g1⟩
  · intro x hx hns
    obtain ⟨A1, hA1⟩ : ∃ A1, A.put r (.iter (some m) since (seen ++ [x.2.2]) clock) = A1 := ⟨_, rfl⟩
    rw [hA1]
    have rm : r ≠ m := fun e => by subst e; rw [i3] at i5; cases i5
    have rmi : r ≠ mi := fun e => by subst e; rw [i3] at i6; cases i6
    have n1 : A1.next = A0.next := by rw [← hA1]; exact i2
    have a1r : A1.get r = some (.iter (some m) since (seen ++ [x.2.2]) clock) := by rw [← hA1, AH.get_put, if_pos rfl]
    have a1m : A1.get m = some (.map es clock) := by rw [← hA1, AH.get_put, if_neg (fun e => rm e.symm)]; exact i5
    have a1mi : A1.get mi = some (.map ies ic) := by rw [← hA1, AH.get_put, if_neg (fun e => rmi e.symm)]; exact i6
    have a1es : okEs A1 es := fun y hy => by rw [← hA1]; exact okL_other (i7 y hy) i3 (fun cs h => by cases h)
    refine OpsW.step rfl ?_
    simp [opV]
    refine OpsW.nil ⟨by omega, ?_⟩
    simp only [andThen]
    refine DW.seq ?_
    refine DW.cond true (by simp) ?_
    simp only [if_true]
    refine DW.of_W (W.skip ⟨by omega, ?_⟩)
    simp only [andThen]
    obtain ⟨y, hy, hfind⟩ := find_stamp hx
    refine DW.of_W ?_
    refine W.block ?_
    refine W.seq ?_
    refine W.region (by rfl) ?_
    refine OpsW.step rfl ?_
    have hent : reads (.entry (.tmp 80)) Tryz.prog (bindE (some 82) (bindE (some 81) e (.tup [.bool true, x.1, x.2.1])) (.bool true)) A1 = some (.tup [y.1, y.2.1]) := by
      simp [reads, e80, a1r, a1m, hfind]
    simp [opV, hent]
    repeat (refine OpsW.step rfl ?_; simp [opV])
    refine OpsW.nil ?_
    simp only [andThen]
    refine W.seq ?_
    refine W.region (by rfl) ?_
    refine OpsW.step rfl ?_
    simp [opV]
    refine OpsW.step rfl ?_
    have hlen : ∃ l : Int, lenV Tryz.prog A1 36 y.2.1 = some (.int .i64 l) ∧ (y.2.1 = .nilslice ∧ l = 0 ∨ ∃ β off len cap ex cs, y.2.1 = .slice β off len cap ex 1 ∧ l = (len : Int) ∧ A1.get β = some (.cells cs) ∧ (∀ x ∈ cs, ∃ n, x = .int .i64 n) ∧ off + len ≤ cs.length ∧ len ≤ 1000000000) := by
      rcases okL_some (a1es y hy) with hv | ⟨β, off, len, cap, ex, cs, hv, g1, g2, g3⟩
      · exact ⟨0, by rw [hv]; simp, .inl ⟨hv, rfl⟩⟩
      · exact ⟨len, by rw [hv]; simp, .inr ⟨β, off, len, cap, ex, cs, hv, rfl, g1, g2, g3, h10 y hy β off len cap ex hv⟩⟩
    obtain ⟨l, hl, hcase⟩ := hlen
    simp [opV, hl]
    refine OpsW.step rfl ?_
    simp [opV]
    refine OpsW.nil ?_
    simp only [andThen]
    -- what is known at the inner loop
    generalize he1 : bindE (some 87) _ _ = e1
    have q10 : e1.get 10 = y.2.1 := by rw [← he1]; simp
    have q85 : e1.get 85 = y.2.1 := by rw [← he1]; simp
    have q86 : e1.get 86 = .int .i64 l := by rw [← he1]; simp
    have q87 : e1.get 87 = .int .i64 0 := by rw [← he1]; simp
    have q4 : e1.get 4 = .map mi := by rw [← he1]; simp [e4]
    have qe : ∀ t, t ∉ visSlots → e1.get t = e0.get t := by
      rw [← he1]
      repeat (refine visSlots_bind ?_ (by simp [visSlots]))
      exact i1
    clear he1
    refine W.mono (Q := VisOut e1 A1 y.2.1) ?_ ?_
    · refine W.block ?_
      refine W.loop ?_
      rcases hcase with ⟨hv, rfl⟩ | ⟨β, off, len, cap, ex, cs, hv, rfl, g1, g2, g3, g4⟩
      · refine LW.step ?_
        refine W.seq ?_
        refine W.region (by rfl) ?_
        refine OpsW.step rfl ?_
        simp [opV, q87, q86]
        refine OpsW.nil ?_
        simp only [andThen]
        refine W.seq ?_
        refine W.cond false (by simp) ?_
        simp only [Bool.false_eq_true, if_false]
        refine W.exit ?_
        simp only [andThen, endBlock, if_true]
        exact ⟨rfl, visSlots_bind (fun _ _ => rfl) (by simp [visSlots]), rfl, fun _ _ => rfl, fun _ h => h⟩
      · rw [hv] at q10 q85
        refine LW.induct (VisIn e1 A1 β off len cap ex cs.length) ?_ _ e1 A1 ⟨0, cs, rfl, Nat.zero_le _, q87, fun _ _ => rfl, q10, q85, q86, g1, rfl, g2, rfl, fun _ _ => rfl⟩
        rintro k e2 A2 ⟨i, ds, rfl, j1, j2, j3, j4, j5, j6, j7, j8, j9, j10, j11⟩
        have e2m : e2.get 4 = .map mi := by rw [j3 4 (by simp [visSlots])]; exact q4
        have hbm : mi ≠ β := fun e => by subst e; rw [g1] at a1mi; cases a1mi
        have a2mi : A2.get mi = some (.map ies ic) := by rw [j11 mi hbm]; exact a1mi
        refine W.seq ?_
        refine W.region (by rfl) ?_
        refine OpsW.step rfl ?_
        simp [opV, j2, j6]
        refine OpsW.nil ?_
        simp only [andThen]
        refine W.seq ?_
        by_cases hi : i < len
        · refine W.cond true (by simp [hi]) ?_
          simp only [if_true]
          refine W.skip ?_
          simp only [andThen]
          refine W.seq ?_
          refine W.block ?_
          refine W.seq ?_
          refine W.region (by rfl) ?_
          refine OpsW.step rfl ?_
          simp [opV, j2]
          refine OpsW.step rfl ?_
          have hix := idxV_slice (P := Tryz.prog) (T := 36) Tryz.underlying36 Tryz.sz3 (β := β) (o := off) (c := cap) (ex := ex) (k := .i64) hi
          simp [opV, j2, j5, hix]
          refine OpsW.step rfl ?_
          obtain ⟨u, hu⟩ : ∃ u, ds[off + i]? = some (.int .i64 u) := by
            have hlt : off + i < ds.length := by omega
            obtain ⟨u, hu⟩ := j9 _ (List.getElem_mem hlt)
            exact ⟨u, by rw [List.getElem?_eq_getElem hlt, hu]⟩
          simp [opV, loadA_of (P := Tryz.prog) (T := 3) (o := off + i) (show cellsA (A2.get β) = some ds by rw [j7]; rfl), partA_one Tryz.sh3, hu]
          repeat (refine OpsW.step rfl ?_; simp [opV])
          refine OpsW.nil ?_
          simp only [andThen]
          obtain ⟨u', hu'⟩ := lookup_ints a2mi h9 u
          refine W.region (by rfl) ?_
          refine OpsW.step rfl ?_
          simp [opV, j4]
          refine OpsW.step rfl ?_
          simp [opV]
          refine OpsW.step rfl ?_
          simp [opV, e2m]
          refine OpsW.step rfl ?_
          simp [opV]
          refine OpsW.step rfl ?_
          simp [opV, hu']
          refine OpsW.step rfl ?_
          simp [opV, hix]
          refine OpsW.step rfl ?_
          have hst := storeA_of (P := Tryz.prog) (T := 3) (o := off + i) (v := .int .i64 u') (new := [.int .i64 u']) (n := 1) j7 rfl Tryz.sz3 rfl (show off + i + 1 ≤ ds.length by omega)
          simp [opV, hst]
          refine OpsW.nil ?_
          simp only [andThen, endBlock]
          refine W.region (by rfl) ?_
          refine OpsW.step rfl ?_
          simp [opV, j2]
          refine OpsW.step rfl ?_
          simp [opV]
          refine OpsW.nil ?_
          simp only [andThen]
          have hw : IntKind.i64.wrap ((i : Int) + 1) = ((i + 1 : Nat) : Int) := by rw [wrap64_in (by omega) (by omega)]; omega
          refine ⟨len - (i + 1), by omega, i + 1, ds.take (off + i) ++ [.int .i64 u'] ++ ds.drop (off + i + 1), rfl, by omega, ?_, ?_, ?_, ?_, ?_, ?_, ?_, ?_, ?_, ?_⟩
          · simp [hw]
          · repeat (refine visSlots_bind ?_ (by simp [visSlots]))
            exact j3
          · simp [j4]
          · simp [j5]
          · simp [j6]
          · rw [AH.get_put, if_pos rfl]; simp
          · simp; omega
          · intro z hz
            simp only [List.mem_append, List.mem_singleton] at hz
            rcases hz with (hz | hz) | hz
            · exact j9 z (List.mem_of_mem_take hz)
            · exact ⟨_, hz⟩
            · exact j9 z (List.mem_of_mem_drop hz)
          · exact j10
          · intro γ hγ
            rw [AH.get_put, if_neg hγ]; exact j11 γ hγ
        · refine W.cond false (by simp [hi]) ?_
          simp only [Bool.false_eq_true, if_false]
          refine W.exit ?_
          simp only [andThen, endBlock, if_true]
          refine ⟨rfl, visSlots_bind j3 (by simp [visSlots]), j10, fun γ hγ => ?_, fun u hu => ?_⟩
          · refine j11 γ fun e => hγ ?_
            rw [hv, e]; rfl
          · rcases okL_some hu with rfl | ⟨γ, o', l', c', x', cs', rfl, f1, f2, f3⟩
            · rfl
            · by_cases e : γ = β
              · subst e
                rw [g1] at f1; injection f1 with f1; injection f1 with f1; subst f1
                exact okL_of j7 j9 (by omega)
              · exact okL_of (by rw [j11 γ e]; exact f1) f2 f3
    · rintro x2 e2 A2 ⟨rfl, o1, o2, o3, o4⟩
      simp only [endBlock, andThen]
      refine ⟨by omega, _, ?_, seen ++ [x.2.2], clock, rfl, fun t ht => (o1 t ht).trans (qe t ht), by omega, ?_, .inr rfl, ?_, ?_, fun z hz => o4 _ (a1es z hz), fun γ hγ hno => ?_⟩
      · exact stamp_less hx hns
      · rw [o3 r ?_]; · exact a1r
        rcases hcase with ⟨hv, _⟩ | ⟨β, off, len, cap, ex, cs, hv, _, g1, _⟩
        · rw [hv]; simp [blk]
        · rw [hv]; intro e; injection e with e; subst e; rw [a1r] at g1; cases g1
      · rw [o3 m ?_]; · exact a1m
        rcases hcase with ⟨hv, _⟩ | ⟨β, off, len, cap, ex, cs, hv, _, g1, _⟩
        · rw [hv]; simp [blk]
        · rw [hv]; intro e; injection e with e; subst e; rw [a1m] at g1; cases g1
      · rw [o3 mi ?_]; · exact a1mi
        rcases hcase with ⟨hv, _⟩ | ⟨β, off, len, cap, ex, cs, hv, _, g1, _⟩
        · rw [hv]; simp [blk]
        · rw [hv]; intro e; injection e with e; subst e; rw [a1mi] at g1; cases g1
      · rw [o3 γ (hno y hy), ← hA1, AH.get_put, if_neg hγ]
        exact i8 γ hγ hno

noncomputable def forgetE (e : En) : En := List.rec (motive := fun _ => En) e (fun t _ ih => ih.set t .any) visSlots
noncomputable def killV (es : List (AV × AV × Nat)) (A : AH) : AH := List.rec (motive := fun _ => AH) A (fun x _ ih => match blk x.2.1 with | some β => ih.put β .dead | none => ih) es
def lenOK (v : AV) : Bool := match v with | .slice _ _ len _ _ _ => Nat.ble len 1000000000 | _ => true
noncomputable def visOK (A : AH) (since clock : Nat) (es ies : List (AV × AV × Nat)) : Bool :=
  (Nat.ble since clock).and ((es.all fun x => (Nat.blt x.2.2 since).and ((okL A x.2.1).and (lenOK x.2.1))).and (ies.all fun x => (isI x.1).and (isI x.2.1)))
/-- the answer of the block that turns the visible variables -/
noncomputable def visG (e : En) (A : AH) : R :=
  match e.get 80, e.get 4 with
  | .ptr r 0, .map mi => (match A.get r, A.get mi with
    | some (.iter (some m) since [] _), some (.map ies _) => (match A.get m with
      | some (.map es clock) => (match visOK A since clock es ies with
        | true => .done .normal (forgetE e) (killV es (A.put r .dead))
        | false => .stuck [7001])
      | _ => .stuck [7002])
    | _, _ => .stuck [7003])
  | _, _ => .stuck [7004]

omit [LoopTab] in
theorem forgetE_get (e : En) (t : Nat) : (forgetE e).get t = if t ∈ visSlots then .any else e.get t := by
  unfold forgetE
  generalize visSlots = l
  induction l with
  | nil => simp
  | cons u l ih =>
    show (En.set (List.rec (motive := fun _ => En) e (fun t _ ih => ih.set t .any) l) u .any).get t = _
    rw [En.get_set]
    by_cases h : t = u
    · subst h; simp
    · rw [if_neg h, ih]; simp [h]
omit [LoopTab] in
theorem killV_next (es : List (AV × AV × Nat)) (A : AH) : (killV es A).next = A.next := by
  induction es with
  | nil => rfl
  | cons x es ih =>
    show (match blk x.2.1 with | some β => (killV es A).put β .dead | none => killV es A).next = _
    split
    · exact ih
    · exact ih
omit [LoopTab] in
theorem killV_get (es : List (AV × AV × Nat)) (A : AH) (γ : Nat) (x : AObj) (h : (killV es A).get γ = some x) : (x = .dead ∧ ∃ z ∈ es, blk z.2.1 = some γ) ∨ ((∀ z ∈ es, blk z.2.1 ≠ some γ) ∧ A.get γ = some x) := by
  induction es with
  | nil => exact .inr ⟨by simp, h⟩
  | cons z es ih =>
    have h : (match blk z.2.1 with | some β => (killV es A).put β .dead | none => killV es A).get γ = some x := h
    have old : (killV es A).get γ = some x → blk z.2.1 ≠ some γ → ((x = .dead ∧ ∃ z' ∈ z :: es, blk z'.2.1 = some γ) ∨ ((∀ z' ∈ z :: es, blk z'.2.1 ≠ some γ) ∧ A.get γ = some x)) := fun h hz => (ih h).imp (fun ⟨a, y, b, c⟩ => ⟨a, y, List.mem_cons_of_mem z b, c⟩) (fun ⟨a, b⟩ => ⟨fun y hy => by
      rcases List.mem_cons.1 hy with rfl | hy
      · exact hz
      · exact a y hy, b⟩)
    split at h
    · rename_i β hβ
      rw [AH.get_put] at h
      split at h
      · rename_i e; subst e
        injection h with h
        exact .inl ⟨h.symm, z, List.mem_cons_self, hβ⟩
      · rename_i e
        exact old h (fun q => e (by rw [hβ] at q; injection q with q; exact q.symm))
    · rename_i hβ
      exact old h (by rw [hβ]; simp)

theorem vis_ok (body : Code) (hb : Holds 6 body (Tryz.f123.body.getD .skip)) (fr : FRec) (e : En) (A : AH) (F : Fence) (N : Nat) (hF : Free F) : RunOK fr 105 ((Code.block 6 body).wpIn F N Tryz.prog) e A (visG e A) := by
  intro hke x e' A' h
  unfold visG at h
  split at h
  · rename_i r mi h1 h2
    split at h
    · rename_i m since last ies ic h3 h5
      split at h
      · rename_i es clock h4
        split at h
        · rename_i hok
          injection h with q1 q2 q3
          subst q1; subst q2; subst q3
          simp only [visOK, Bool.and_eq_true, List.all_eq_true, nble, nblt, decide_eq_true_eq] at hok
          obtain ⟨k1, k2, k3⟩ := hok
          have hn : (killV es (A.put r .dead)).next = A.next := killV_next _ _
          have hD := vis_block body hb e A r m mi since last clock ic es ies h1 h2 h3 h4 h5 k1 (fun x hx => (k2 x hx).1) (fun x hx => (k2 x hx).2.1) (fun x hx => k3 x hx) (fun x hx β off len cap ex hv => by
            have := (k2 x hx).2.2
            rw [hv] at this
            simpa [lenOK, nble] using this)
          refine ⟨fun t ht => ?_, by rw [hn]; exact Nat.le_refl _, fun {B} ρ w a hr he hwin hnn hd Q hQ => ?_⟩
          · rw [forgetE_get]
            split
            · rfl
            · exact hke t ht
          · refine hD F N hF (.inr rfl) (B := B) ρ w a hr he (fun β g1 g2 => by omega) hnn hd Q fun x1 e1 A1 ρ1 a1 w1 q0 q1 q2 q3 q4 q5 => ?_
            obtain ⟨rfl, p1, p2, p3, p4, p5⟩ := q0
            have hst : Step A ρ w (killV es (A.put r .dead)) ρ1 w1 := by
              refine Step.forget q2 (by rw [hn, p2]) fun γ y hy => ?_
              rcases killV_get _ _ _ _ hy with ⟨rfl, z, hz, hzb⟩ | ⟨hno, hy2⟩
              · exact .inr ⟨rfl, p5 γ ⟨z, hz, hzb⟩⟩
              · rw [AH.get_put] at hy2
                split at hy2
                · rename_i e; subst e
                  exact .inr ⟨(Option.some.inj hy2).symm, p4⟩
                · rename_i hγ
                  exact .inl (by rw [p3 γ hγ hno]; exact hy2)
            have hsub : ∀ γ y, (killV es (A.put r .dead)).get γ = some y → y.seen = true → A1.get γ = some y := fun γ y hy hs => by
              rcases killV_get _ _ _ _ hy with ⟨rfl, _⟩ | ⟨hno, hy2⟩
              · cases hs
              · rw [AH.get_put] at hy2
                split at hy2
                · rename_i e; subst e
                  rw [← Option.some.inj hy2] at hs; cases hs
                · rename_i hγ
                  rw [p3 γ hγ hno]; exact hy2
            refine hQ ρ1 a1 w1 (fun t => ?_) hst q4 ?_
            · rw [forgetE_get]
              split
              · trivial
              · rename_i ht
                rw [← p1 t ht]; exact q1 t
            · obtain ⟨hB, rs, d1, d2, d3⟩ := q5
              exact ⟨hB, rs, d1, d2, fun q hq => ⟨(d3 q hq).1, (d3 q hq).2.1, fun β x l g1 g2 g3 => (d3 q hq).2.2 β x l (hsub β x g1 g2) g2 g3⟩⟩
        · cases h
      · cases h
    · cases h
  · cases h
end Go.Proofs
