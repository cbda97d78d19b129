import Derived.Test.YtmaclibfncchgaaGreatDoorEvA
import Derived.Laws.IdiomStrings
import Derived.OrdersIn
import Derived.TacticsIn
import Derived.RangeFuncCalls
set_option linter.all false
namespace Go.Ab
open Go
variable {P : Program} [LoopTab]

theorem HR.cells {A : AH} {ρ : Rho} {w : World} (hr : HR A ρ w) {β b base sz : Nat} {cs : List AV} (hg : A.get β = some (.cells cs)) (hρ : ρ β = some (b, base, sz)) : OR ρ w b base sz (.cells cs) := by
  obtain ⟨b', base', sz', h1, h2⟩ := hr.obj β _ hg
  rw [hρ] at h1; injection h1 with h1; simp at h1; obtain ⟨rfl, rfl, rfl⟩ := h1
  exact h2
theorem HR.map {A : AH} {ρ : Rho} {w : World} (hr : HR A ρ w) {β b base sz : Nat} {es : List (AV × AV × Nat)} {clock : Nat} (hg : A.get β = some (.map es clock)) (hρ : ρ β = some (b, base, sz)) : OR ρ w b base sz (.map es clock) := by
  obtain ⟨b', base', sz', h1, h2⟩ := hr.obj β _ hg
  rw [hρ] at h1; injection h1 with h1; simp at h1; obtain ⟨rfl, rfl, rfl⟩ := h1
  exact h2
theorem HR.iter {A : AH} {ρ : Rho} {w : World} (hr : HR A ρ w) {β b base sz : Nat} {m : Option Nat} {since : Nat} {seen : List Nat} {st : Nat} (hg : A.get β = some (.iter m since seen st)) (hρ : ρ β = some (b, base, sz)) : OR ρ w b base sz (.iter m since seen st) := by
  obtain ⟨b', base', sz', h1, h2⟩ := hr.obj β _ hg
  rw [hρ] at h1; injection h1 with h1; simp at h1; obtain ⟨rfl, rfl, rfl⟩ := h1
  exact h2

theorem OR.to_ro {ρ : Rho} {w : World} {b base sz : Nat} {cs : List AV} (h : OR ρ w b base sz (.cells cs)) : OR ρ w b base sz (.ro cs) := ⟨h.2.1, h.2.2.2.1⟩
theorem HR.read {A : AH} {ρ : Rho} {w : World} (hr : HR A ρ w) {β b base sz : Nat} {cs : List AV} (hg : cellsA (A.get β) = some cs) (hρ : ρ β = some (b, base, sz)) : OR ρ w b base sz (.ro cs) := by
  cases hx : A.get β with
  | none => rw [hx] at hg; cases hg
  | some x =>
    rw [hx] at hg
    obtain ⟨b', base', sz', h1, h2⟩ := hr.obj β _ hx
    rw [hρ] at h1; injection h1 with h1; simp at h1; obtain ⟨rfl, rfl, rfl⟩ := h1
    cases x <;> simp only [cellsA, reduceCtorEq] at hg <;> cases some_inj hg
    · exact h2.to_ro
    · exact h2
/-- n cells of a row, as a list of values. -/
theorem OR.list {ρ : Rho} {w : World} {b base sz : Nat} {cs : List AV} (ho : OR ρ w b base sz (.ro cs)) (o n : Nat) (hn : o + n ≤ cs.length) :
    ∃ vs : List Value, vs.length = n ∧ (∀ (j : Nat) v, vs[j]? = some v → w.cell? ⟨b, base + o + j, none⟩ = some v) ∧ VRs ρ ((cs.drop o).take n) vs ∧ ∀ v ∈ vs, v.oneCell' = true := by
  obtain ⟨_, h4⟩ := ho
  have get : ∀ j, j < n → ∃ a v, cs[o + j]? = some a ∧ w.cell? ⟨b, base + o + j, none⟩ = some v ∧ VR ρ a v ∧ v.oneCell' = true := fun j hj => by
    obtain ⟨a, ha⟩ : ∃ a, cs[o + j]? = some a := ⟨cs[o + j]'(by omega), List.getElem?_eq_getElem (by omega)⟩
    obtain ⟨v, g1, g2, g3⟩ := h4 (o + j) a ha
    exact ⟨a, v, ha, by rw [Nat.add_assoc]; exact g1, g2, g3⟩
  refine ⟨(List.range n).map fun j => (w.cell? ⟨b, base + o + j, none⟩).getD undef, by simp, fun j v hj => ?_, ?_, fun v hv => ?_⟩
  · rw [List.getElem?_map] at hj
    by_cases hjn : j < n
    · obtain ⟨a, u, _, g2, _⟩ := get j hjn
      rw [List.getElem?_range hjn] at hj
      simp [g2] at hj; subst hj; exact g2
    · rw [List.getElem?_eq_none (by simp; omega)] at hj; cases hj
  · refine VRs.of_get (by simp; omega) fun j a ha => ?_
    have hjn : j < n := by
      have := (List.getElem?_eq_some_iff.1 ha).1
      simp at this; omega
    obtain ⟨a', u, g1, g2, g3, _⟩ := get j hjn
    rw [List.getElem?_take_of_lt hjn, List.getElem?_drop, g1] at ha
    injection ha with ha; subst ha
    exact ⟨u, by rw [List.getElem?_map, List.getElem?_range hjn]; simp [g2], g3⟩
  · obtain ⟨j, hj, rfl⟩ := List.mem_map.1 hv
    obtain ⟨a, u, _, g2, _, g4⟩ := get j (by simpa using hj)
    simp [g2, g4]

theorem loadA_sound {A : AH} {ρ : Rho} {w : World} (hr : HR A ρ w) {T : TypeId} {x r : AV} {v : Value} (hx : VR ρ x v) (h : loadA P A T x = some r) :
    ∃ val, (Instr.loadAt T v).run P w = .ok val w ∧ VR ρ r val := by
  unfold loadA at h
  split at h
  · rename_i β o
    split at h
    · rename_i cs hg
      obtain ⟨b, base, sz, g1, rfl⟩ := hx
      have ho := hr.read hg g1
      unfold partA at h
      split at h
      · rename_i n hs
        obtain ⟨ha, hz, _, _⟩ := shapeT_some hs
        rw [takeN_eq, dropN_eq] at h
        split at h
        · rename_i l hl
          cases some_inj h
          split at hl
          · rename_i hlen
            cases some_inj hl
            simp only [List.length_drop] at hlen
            rcases Nat.lt_or_ge cs.length (o + n) with hlt | hge
            · rename_i hn0
              exfalso; omega
            · obtain ⟨vs, v1, v2, v3, v4⟩ := ho.list o n hge
              have hl := run_loadCells_list (P := P) w ⟨b, base + o, none⟩ vs (fun j v hj => by rw [Addr.add_lit]; exact v2 j v hj)
              rw [v1] at hl
              exact ⟨.agg vs.toArray, by simp [Instr.loadAt, Instr.sureAddr, loadVar, ha, hz, hl], vs.toArray, rfl, by simpa using v3, fun y hy => v4 y (by simpa using hy)⟩
          · cases hl
        · cases h
      · rename_i n hs
        obtain ⟨ha, hz, _, _⟩ := shapeT_some hs
        rw [nth_eq] at h
        obtain ⟨_, h4⟩ := ho
        obtain ⟨u, q1, q2, _⟩ := h4 o r h
        exact ⟨u, by simp [Instr.loadAt, Instr.sureAddr, loadVar, ha, q1], q2⟩
      · cases h
    · cases h
  · cases h

/-! maps -/
theorem eqKey_sound {ρ : Rho} {k k' : AV} {v u : Value} {b : Bool} (hk : VR ρ k v) (hk' : VR ρ k' u) (h : eqKey k k' = some b) :
    (∀ q, (∃ j n, k = .int j n) → Instr.sameNow (.int q) v u = some b) ∧ ((∃ s, k = .str s) → Instr.sameNow .string v u = some b) := by
  unfold eqKey at h
  split at h
  · obtain rfl := hk
    split at h
    · obtain rfl := hk'
      split at h
      · rename_i e; subst e
        cases some_inj h
        exact ⟨fun q _ => by simp [Instr.sameNow, intEq_eq], fun ⟨s, hs⟩ => by cases hs⟩
      · cases h
    · cases h
  · rw [VR_str] at hk
    obtain ⟨h1, rfl⟩ := hk
    split at h
    · rw [VR_str] at hk'
      obtain ⟨h2, rfl⟩ := hk'
      cases some_inj h
      refine ⟨fun q hq => ?_, fun _ => ?_⟩
      · obtain ⟨j, n, e⟩ := hq; cases e
      simp only [Instr.sameNow]
      rw [beq_toListBytes, toB_eq h1 h2]
    · cases h
  · cases h

theorem findA_sound {ρ : Rho} {d : TypeDesc} {k : AV} {v : Value} (hk : VR ρ k v) (hd : ((∃ q, d = .int q) ∧ ∃ j n, k = .int j n) ∨ (d = .string ∧ ∃ s, k = .str s)) :
    ∀ (es : List (AV × AV × Nat)) (ms : List MapEntry) (i : Nat) (r : Option (Nat × AV)), Ents ρ es ms → findA k es i = some r →
    match r with
    | none => Instr.findNow d v ms i = some none
    | some (j, a) => ∃ u, Instr.findNow d v ms i = some (some (j, u)) ∧ VR ρ a u ∧ i ≤ j ∧ (∃ k' n, es[j - i]? = some (k', a, n)) ∧ ∃ m, ms[j - i]? = some m ∧ m.val = u ∧ Instr.sameNow d v m.key = some true
  | [], [], i, r, _, h => by simp only [findA] at h; cases some_inj h; rfl
  | (k', a, n) :: es, m :: ms, i, r, ⟨h1, h2, h3, h4⟩, h => by
    simp only [findA] at h
    have hs : ∀ b, eqKey k k' = some b → Instr.sameNow d v m.key = some b := fun b hb => by
      obtain ⟨g1, g2⟩ := eqKey_sound hk h1 hb
      rcases hd with ⟨⟨q, rfl⟩, e⟩ | ⟨rfl, e⟩
      · exact g1 q e
      · exact g2 e
    split at h
    · rename_i he
      cases some_inj h
      have := hs true he
      exact ⟨m.val, by simp [Instr.findNow, this], h2, Nat.le_refl _, ⟨k', n, by simp⟩, m, by simp, rfl, this⟩
    · rename_i he
      have hf := hs false he
      have ih := findA_sound hk hd es ms (i + 1) r h4 h
      cases r with
      | none => simp only [Instr.findNow, hf]; exact ih
      | some p =>
        obtain ⟨j, a'⟩ := p
        obtain ⟨u, q1, q2, q3, ⟨k'', n', q4⟩, m', q5, q6⟩ := ih
        refine ⟨u, by simp only [Instr.findNow, hf]; exact q1, q2, by omega, ⟨k'', n', ?_⟩, m', ?_, q6⟩
        · rw [show j - i = (j - (i + 1)) + 1 by omega]; simpa using q4
        · rw [show j - i = (j - (i + 1)) + 1 by omega]; simpa using q5
    · cases h
  | [], _ :: _, _, _, h, _ => h.elim
  | _ :: _, [], _, _, h, _ => h.elim

theorem keyKind_some {M el : TypeId} {k : AV} (h : keyKind P M k = some el) :
    ∃ kt d, P.underlying M = some (.map kt el) ∧ P.underlying kt = some d ∧ (((∃ q, d = .int q) ∧ ∃ j n, k = .int j n) ∨ (d = .string ∧ ∃ s, k = .str s)) := by
  unfold keyKind at h
  split at h
  · rename_i kt el' hu
    split at h
    · rename_i q hk
      split at h
      · cases some_inj h; exact ⟨kt, _, hu, hk, .inl ⟨⟨_, rfl⟩, _, _, rfl⟩⟩
      · cases h
    · rename_i hk
      split at h
      · cases some_inj h; exact ⟨kt, _, hu, hk, .inr ⟨rfl, _, rfl⟩⟩
      · cases h
    · cases h
  · cases h

theorem run_checkKey {ρ : Rho} {kt : TypeId} {d : TypeDesc} {k : AV} {v : Value} (hk : VR ρ k v) (hu : P.underlying kt = some d) (hd : ((∃ q, d = .int q) ∧ ∃ j n, k = .int j n) ∨ (d = .string ∧ ∃ s, k = .str s)) (e : Bool) (w : World) :
    (Instr.checkKey e 10000 kt v).run P w = .ok () w := by
  rcases hd with ⟨⟨q, rfl⟩, j, n, rfl⟩ | ⟨rfl, s, rfl⟩
  · obtain rfl := hk
    rw [Instr.checkKey]; simp only [Sem.run_bind, run_underlying hu, Result.andThen_ok]; rfl
  · rw [VR_str] at hk
    obtain ⟨_, rfl⟩ := hk
    rw [Instr.checkKey]; simp only [Sem.run_bind, run_underlying hu, Result.andThen_ok]; rfl


theorem withOk_VR {ρ : Rho} {a : AV} {v : Value} (h : VR ρ a v) (ok b : Bool) : VR ρ (withOk ok a b) (if ok then .tuple #[v, .bool b] else v) := by
  unfold withOk
  rw [brec]
  cases ok
  · exact h
  · exact ⟨_, rfl, h, rfl, trivial⟩

theorem findU_sound {ρ : Rho} {d : TypeDesc} {k : AV} {v : Value} (hk : VR ρ k v) (hd : ((∃ q, d = .int q) ∧ ∃ j n, k = .int j n) ∨ (d = .string ∧ ∃ s, k = .str s)) :
    ∀ (es : List (AV × AV)) (ms : List MapEntry) (r : Option AV), Ents2 ρ es ms → findU k es = some r →
    (∀ m ∈ ms, Instr.sameNow d v m.key = some false ∨ Instr.sameNow d v m.key = some true) ∧ (∀ m ∈ ms, Instr.sameNow d v m.key = some true → ∃ a, r = some a ∧ VR ρ a m.val) ∧ (r ≠ none → ∃ m ∈ ms, Instr.sameNow d v m.key = some true)
  | [], [], r, _, h => by simp only [findU] at h; cases some_inj h; exact ⟨by simp, by simp, by simp⟩
  | (k', a) :: es, m :: ms, r, ⟨h1, h2, h3⟩, h => by
    simp only [findU] at h
    have hs : ∀ b, eqKey k k' = some b → Instr.sameNow d v m.key = some b := fun b hb => by
      obtain ⟨g1, g2⟩ := eqKey_sound hk h1 hb
      rcases hd with ⟨⟨q, rfl⟩, e⟩ | ⟨rfl, e⟩
      · exact g1 q e
      · exact g2 e
    split at h
    · rename_i he hq
      cases some_inj h
      have ih := findU_sound hk hd es ms none h3 hq
      refine ⟨fun y hy => ?_, fun y hy hyt => ?_, fun _ => ⟨m, List.mem_cons_self, hs true he⟩⟩
      · rcases List.mem_cons.1 hy with rfl | hy
        · exact .inr (hs true he)
        · exact ih.1 y hy
      · rcases List.mem_cons.1 hy with rfl | hy
        · exact ⟨a, rfl, h2⟩
        · obtain ⟨a', e, _⟩ := ih.2.1 y hy hyt; cases e
    · rename_i r' he hq
      cases some_inj h
      have ih := findU_sound hk hd es ms r h3 hq
      have hf := hs false he
      refine ⟨fun y hy => ?_, fun y hy hyt => ?_, fun hne => ?_⟩
      · rcases List.mem_cons.1 hy with rfl | hy
        · exact .inl hf
        · exact ih.1 y hy
      · rcases List.mem_cons.1 hy with rfl | hy
        · rw [hf] at hyt; cases hyt
        · exact ih.2.1 y hy hyt
      · obtain ⟨y, hy, hyt⟩ := ih.2.2 hne
        exact ⟨y, List.mem_cons_of_mem _ hy, hyt⟩
    · cases h
  | [], _ :: _, _, h, _ => h.elim
  | _ :: _, [], _, h, _ => h.elim

theorem findNow_any {d : TypeDesc} {v : Value} : ∀ (ms : List MapEntry) (i : Nat), (∀ m ∈ ms, Instr.sameNow d v m.key = some false ∨ Instr.sameNow d v m.key = some true) →
    ((∀ m ∈ ms, Instr.sameNow d v m.key = some false) ∧ Instr.findNow d v ms i = some none) ∨ ∃ m ∈ ms, Instr.sameNow d v m.key = some true ∧ ∃ j, Instr.findNow d v ms i = some (some (j, m.val))
  | [], i, _ => .inl ⟨by simp, rfl⟩
  | m :: ms, i, h => by
    rcases h m List.mem_cons_self with hm | hm
    · rcases findNow_any ms (i + 1) fun y hy => h y (List.mem_cons_of_mem _ hy) with ⟨h1, h2⟩ | ⟨y, hy, h1, j, h2⟩
      · refine .inl ⟨fun y hy => ?_, by simp only [Instr.findNow, hm]; exact h2⟩
        rcases List.mem_cons.1 hy with rfl | hy
        · exact hm
        · exact h1 y hy
      · exact .inr ⟨y, List.mem_cons_of_mem _ hy, h1, j, by simp only [Instr.findNow, hm]; exact h2⟩
    · exact .inr ⟨m, List.mem_cons_self, hm, i, by simp only [Instr.findNow, hm]⟩

theorem mapFind {A : AH} {ρ : Rho} {w : World} (hr : HR A ρ w) {m k : AV} {mv kv : Value} {d : TypeDesc} (hm : VR ρ m mv) (hk : VR ρ k kv) (hkd : ((∃ q, d = .int q) ∧ ∃ j n, k = .int j n) ∨ (d = .string ∧ ∃ s, k = .str s)) {q : Option AV} (hq : mapFindA A m k = some q) :
        ∃ ms : Array MapEntry, (match q with | none => Instr.findNow d kv ms.toList 0 = some none | some a => ∃ j u, Instr.findNow d kv ms.toList 0 = some (some (j, u)) ∧ VR ρ a u) ∧ ((mv = .map none ∧ ms = #[]) ∨ ∃ b clock, mv = .map (some b) ∧ w.heap[b]? = some (.map ms clock)) := by
  unfold mapFindA at hq
  cases m
  case nilmap =>
    cases some_inj hq
    obtain rfl := hm
    exact ⟨#[], rfl, .inl ⟨rfl, rfl⟩⟩
  case map β =>
    simp only at hq
    cases hg : A.get β with
    | none => rw [hg] at hq; cases hq
    | some x =>
      rw [hg] at hq
      cases x
      case map es clock =>
        simp only at hq
        obtain ⟨b, base, sz, g1, rfl⟩ := hm
        obtain ⟨es'', q1, q2⟩ := hr.map hg g1
        refine ⟨es'', ?_, .inr ⟨b, clock, rfl, q1⟩⟩
        split at hq
        · rename_i j a hf
          cases some_inj hq
          obtain ⟨u, q1, q2, _⟩ := findA_sound hk hkd es es''.toList 0 _ q2 hf
          exact ⟨_, u, q1, q2⟩
        · rename_i hf
          cases some_inj hq
          exact findA_sound hk hkd es es''.toList 0 _ q2 hf
        · cases hq
      case umap es =>
        simp only at hq
        obtain ⟨b, base, sz, g1, rfl⟩ := hm
        obtain ⟨b', base', sz', g2, es'', clock, ms, q1, q2, q3⟩ := hr.obj _ _ hg
        rw [g1] at g2; injection g2 with g2; simp at g2; obtain ⟨rfl, rfl, rfl⟩ := g2
        refine ⟨es'', ?_, .inr ⟨b, clock, rfl, q1⟩⟩
        obtain ⟨f1, f2, f3⟩ := findU_sound hk hkd es ms q q3 hq
        rcases findNow_any (d := d) (v := kv) es''.toList 0 (fun y hy => f1 y (q2.mem_iff.1 hy)) with ⟨e1, e2⟩ | ⟨y, hy, e1, j, e2⟩
        · cases q with
          | none => exact e2
          | some a =>
            obtain ⟨y, hy, e3⟩ := f3 (by simp)
            rw [e1 y (q2.mem_iff.2 hy)] at e3; cases e3
        · obtain ⟨a, rfl, ha⟩ := f2 y (q2.mem_iff.1 hy) e1
          exact ⟨j, _, e2, ha⟩
      all_goals cases hq
  all_goals cases hq

theorem lookupA_sound {A : AH} {ρ : Rho} {w : World} (hr : HR A ρ w) {M : TypeId} {m k r : AV} {mv kv : Value} {ok : Bool} (hm : VR ρ m mv) (hk : VR ρ k kv) (h : lookupA P A M m k ok = some r) :
    ∃ val, (Instr.lookup M mv kv ok).run P w = .ok val w ∧ VR ρ r val := by
  unfold lookupA at h
  split at h
  · cases h
  · rename_i el hkk
    obtain ⟨kt, d, hu, hd, hkd⟩ := keyKind_some hkk
    have key := fun q => mapFind (q := q) hr hm hk hkd
    split at h
    · rename_i a hq
      cases some_inj h
      obtain ⟨ms, ⟨j, u, q1, q2⟩, e2⟩ := key _ hq
      have hck := run_checkKey (P := P) hk hd hkd ms.isEmpty w
      refine ⟨_, ?_, withOk_VR q2 ok true⟩
      rcases e2 with ⟨rfl, rfl⟩ | ⟨b, clock, rfl, hb⟩
      · simp only [Instr.lookup, Sem.run_bind, run_underlying hu, Result.andThen_ok, Sem.run_pure, hck, Instr.findKey, run_underlying hd, q1]
      · have hg : (getObj b).run P w = .ok (.map ms clock) w := by simp [getObj, Sem.run, hb]
        simp only [Instr.lookup, Sem.run_bind, run_underlying hu, Result.andThen_ok, Sem.run_pure, hg, hck, Instr.findKey, run_underlying hd, q1]
    · rename_i hq
      split at h
      · rename_i z hz
        cases some_inj h
        obtain ⟨ms, q1, e2⟩ := key _ hq
        have hck := run_checkKey (P := P) hk hd hkd ms.isEmpty w
        obtain ⟨zv, z1, z2⟩ := zeroVal_some ρ hz
        refine ⟨_, ?_, withOk_VR z2 ok false⟩
        rcases e2 with ⟨rfl, rfl⟩ | ⟨b, clock, rfl, hb⟩
        · simp only [Instr.lookup, Sem.run_bind, run_underlying hu, Result.andThen_ok, Sem.run_pure, hck, Instr.findKey, run_underlying hd, q1, z1]
        · have hg : (getObj b).run P w = .ok (.map ms clock) w := by simp [getObj, Sem.run, hb]
          simp only [Instr.lookup, Sem.run_bind, run_underlying hu, Result.andThen_ok, Sem.run_pure, hg, hck, Instr.findKey, run_underlying hd, q1, z1]
      · cases h
    · cases h


theorem entry_sound {A : AH} {ρ : Rho} {w : World} (hr : HR A ρ w) {it r : AV} {v : Value} (hi : VR ρ it v) {e : En} {x : Operand} (hx : opnd x e = it) (h : reads (.entry x) P e A = some r) :
    ∃ val, (Instr.entry v).run P w = .ok val w ∧ VR ρ r val := by
  simp only [reads, hx] at h
  split at h
  · rename_i q
    split at h
    · rename_i m since seen stepped hg
      obtain ⟨b, base, sz, g1, rfl⟩ := hi
      obtain ⟨h0, m', q1, b', x', y', q2, rfl⟩ := hr.iter hg g1
      subst h0
      split at h
      · rename_i stamp es clock hst hgm
        obtain ⟨ms, q3, q4⟩ := hr.map hgm q2
        split at h
        · rename_i hcl
          rw [nbeq] at hcl; simp only [decide_eq_true_eq] at hcl
          subst hcl
          have hf : ∀ (es : List (AV × AV × Nat)) (ms : List MapEntry), Ents ρ es ms → ∀ p, es.find? (fun x => Nat.beq x.2.2 stamp) = some p → ∃ me, ms.find? (fun me => me.born == stamp) = some me ∧ VR ρ p.1 me.key ∧ VR ρ p.2.1 me.val := by
            intro es
            induction es with
            | nil => intro ms _ p hp; cases hp
            | cons a es ih =>
              intro ms hE p hp
              obtain ⟨k0, v0, n0⟩ := a
              cases ms with
              | nil => exact hE.elim
              | cons me ms =>
                obtain ⟨f1, f2, f3, f4⟩ := hE
                rw [List.find?_cons] at hp ⊢
                have eb : Nat.beq n0 stamp = (me.born == stamp) := by rw [nbeq, f3, Bool.eq_iff_iff]; simp
                simp only [eb] at hp
                split at hp
                · rename_i hb; injection hp with hp; subst hp
                  exact ⟨me, rfl, f1, f2⟩
                · rename_i hb
                  exact ih ms f4 p hp
          split at h
          · rename_i k0 v0 n0 hp
            cases some_inj h
            obtain ⟨me, f1, f2, f3⟩ := hf es ms.toList q4 _ hp
            refine ⟨.tuple #[me.key, me.val], ?_, _, rfl, f2, f3, trivial⟩
            have e1 : (getObj b).run P w = .ok (.mapIter (some b') since seen.toArray clock) w := by simp [getObj, Sem.run, q1]
            have e2 : (getObj b').run P w = .ok (.map ms clock) w := by simp [getObj, Sem.run, q3]
            have e3 : seen.toArray.back? = some stamp := by rw [← Array.getLast?_toList]; exact hst
            have e4 : ms.find? (fun me => me.born == stamp) = some me := by rw [← Array.find?_toList]; exact f1
            simp only [Instr.entry, Sem.run_bind, e1, Result.andThen_ok, e3, e2, e4, bne_self_eq_false, Bool.false_eq_true, if_false]
            rfl
          · cases h
        · cases h
      · cases h
    · cases h
  · cases h


theorem reads_sound {A : AH} {ρ : Rho} {w : World} (hr : HR A ρ w) {o : Oper} {e : En} {ev : Operand → Value} (H : ∀ x ∈ o.op.operands, VR ρ (opnd x e) (ev x)) {r : AV} (h : reads o.op P e A = some r) :
    ∃ val, (execOp ev o).run P w = .ok (.value val) w ∧ VR ρ r val := by
  obtain ⟨dst, op, type, pos, after, guard⟩ := o
  cases op <;> simp only [reads, reduceCtorEq] at h <;> simp only [Op.operands] at H
  case load T a =>
    obtain ⟨val, q1, q2⟩ := loadA_sound hr (H a (by simp)) h
    exact ⟨val, by simp only [execOp]; exact run_value _ _ _ _ q1, q2⟩
  case lookup M m k ok =>
    obtain ⟨val, q1, q2⟩ := lookupA_sound hr (H m (by simp)) (H k (by simp)) h
    exact ⟨val, by simp only [execOp]; exact run_value _ _ _ _ q1, q2⟩
  case entry it =>
    obtain ⟨val, q1, q2⟩ := entry_sound (P := P) hr (H it (by simp)) rfl (by simp only [reads]; exact h)
    exact ⟨val, by simp only [execOp]; exact run_value _ _ _ _ q1, q2⟩
  case call c =>
    obtain ⟨callee, args, tys⟩ := c
    simp only [Call.operands] at H
    cases callee <;> simp only [reduceCtorEq] at h
    case builtin b =>
      cases b <;> simp only [reduceCtorEq] at h
      case len =>
        split at h
        · rename_i x T ha hT
          have hargs : args = #[x] := by apply Array.ext'; simpa using ha
          subst hargs
          have hx := H x (by simp)
          split at h
          · rename_i β hβ
            rw [hβ] at hx
            obtain ⟨b, base, sz, g1, g2⟩ := hx
            split at h
            · rename_i es clock kt el hg hu
              cases some_inj h
              obtain ⟨ms, q1, q2⟩ := hr.map hg g1
              have hl : ∀ (es : List (AV × AV × Nat)) (ms : List MapEntry), Ents ρ es ms → es.length = ms.length := by
                intro es
                induction es with
                | nil => intro ms hE; cases ms with
                  | nil => rfl
                  | cons => exact hE.elim
                | cons a es ih => intro ms hE; cases ms with
                  | nil => exact hE.elim
                  | cons m ms => simp [ih ms hE.2.2.2]
              have hl' := hl _ _ q2
              have e1 : (getObj b).run P w = .ok (.map ms clock) w := by simp [getObj, Sem.run, q1]
              refine ⟨.int .i64 (.ofNat es.length), ?_, rfl⟩
              simp only [execOp, resolve, Sem.run_bind, Sem.run_pure, Result.andThen_ok, invoke, builtin]
              have q1' : (Builtin.len_ tys type (Array.map ev #[x])).run P w = .ok (goInt ms.size) w := by
                simp [Builtin.len_, hT, run_underlying hu, g2, e1]
              rw [q1', hl']; rfl
            · cases h
          · cases h
        · cases h

end Go.Ab

namespace Go.Ab
open Go
variable {P : Program} [LoopTab]

theorem Mark.new (w : World) (c : Array Value) (elem : TypeId) : Mark (w.alloc (.cells c elem)) w.heap.size c.size :=
  ⟨c, elem, 0, 0, by show (w.heap.push _)[w.heap.size]? = _; simp, Nat.le_refl _, .inl rfl⟩

/-- A new row of cells. -/
theorem OR.new {ρ : Rho} {w : World} {c : Array Value} {elem : TypeId} {cs : List AV} (hc : VRs ρ cs c.toList) (h1 : ∀ x ∈ c, x.oneCell' = true) :
    OR ρ (w.alloc (.cells c elem)) w.heap.size 0 c.size (.cells cs) := by
  have hl := VRs.length hc
  simp only [Array.length_toList] at hl
  refine ⟨by omega, by simp, fun j hj => ?_, fun i a ha => ?_, Mark.new _ _ _⟩
  · rw [World.cell?_alloc_new, World.frozen?_alloc_new]
    refine ⟨?_, rfl⟩
    rw [Array.getElem?_eq_getElem hj]; rfl
  · obtain ⟨v, q1, q2⟩ := VRs.get hc i a ha
    have q1' : c[i]? = some v := by simpa using q1
    refine ⟨v, by rw [Nat.zero_add, World.cell?_alloc_new]; exact q1', q2, h1 v (Array.mem_of_getElem? q1')⟩

theorem replicate_VRs {ρ : Rho} {z : List AV} {zv : List Value} (h : VRs ρ z zv) : ∀ n, VRs ρ (List.replicate n z).flatten (List.replicate n zv).flatten
  | 0 => trivial
  | n + 1 => by rw [List.replicate_succ, List.replicate_succ, List.flatten_cons, List.flatten_cons]; exact VRs.append h (replicate_VRs h n)
theorem range_cells (zv : List Value) (hz : 0 < zv.length) (n : Nat) : ((Array.range (n * zv.length)).map (zv.toArray[· % zv.toArray.size]!)).toList = (List.replicate n zv).flatten := by
  apply List.ext_getElem?
  intro i
  have e : ∀ n i, (List.replicate n zv).flatten[i]? = if i < n * zv.length then zv[i % zv.length]? else none := by
    intro n
    induction n with
    | zero => intro i; simp
    | succ n ih =>
      intro i
      rw [List.replicate_succ, List.flatten_cons]
      by_cases hi : i < zv.length
      · rw [List.getElem?_append_left hi, if_pos (by rw [Nat.succ_mul]; omega), Nat.mod_eq_of_lt hi]
      · rw [List.getElem?_append_right (by omega), ih]
        have : (i - zv.length) % zv.length = i % zv.length := by
          rw [← Nat.add_mod_right (i - zv.length)]; congr 1; omega
        rw [this]
        congr 1
        rw [Nat.succ_mul]
        apply propext; omega
  rw [e]
  by_cases hi : i < n * zv.length
  · rw [if_pos hi]
    have hm : i % zv.length < zv.length := Nat.mod_lt _ hz
    simp [hi, hm]
  · rw [if_neg hi]
    simp; omega

theorem mem_flatten_replicate {α : Type} {l : List α} {n : Nat} {x : α} (h : x ∈ (List.replicate n l).flatten) : x ∈ l := by
  obtain ⟨s, hs, hx⟩ := List.mem_flatten.1 h
  rw [List.mem_replicate] at hs
  exact hs.2 ▸ hx

theorem fillA_length (place : Nat → Option (Nat × Nat)) : ∀ (ps : List (Nat × AV)) (cells r : List AV), fillA place cells ps = some r → r.length = cells.length
  | [], cells, r, h => by simp only [fillA] at h; cases some_inj h; rfl
  | (i, a) :: ps, cells, r, h => by
    simp only [fillA] at h
    split at h
    · split at h
      · split at h
        · rename_i c' ho
          rw [fillA_length place ps _ _ h]
          obtain ⟨h1, h2⟩ := overAt_some ho
          rw [h2]; simp; omega
        · cases h
      · cases h
    · cases h

theorem range_zero : Array.range 0 = #[] := by apply Array.ext'; simp
theorem wrap_small {n : Nat} (h : n ≤ 1000000) : IntKind.i64.wrap (Int.ofNat n) = (n : Int) := by
  rw [← wrapI_eq]
  unfold wrapI
  simp only [brec, nble]
  rw [if_pos (by simp; omega)]; rfl

theorem allocL_sound {ρ : Rho} {o : Oper} {e : En} {ev : Operand → Value} (H : ∀ x ∈ o.op.operands, VR ρ (opnd x e) (ev x)) {nv : NV} {x : AObj} (h : allocL o.op P e = some (nv, x)) (w : World) :
    ∃ val obj sz, (execOp ev o).run P w = .ok (.value val) (w.alloc obj) ∧ x.live = true ∧
      ∀ (β : Nat) (ρ' : Rho), ρ.le ρ' → ρ' β = some (w.heap.size, 0, sz) → OR ρ' (w.alloc obj) w.heap.size 0 sz x ∧ VR ρ' (nv.at β) val := by
  obtain ⟨dst, op, type, pos, after, guard⟩ := o
  cases op <;> simp only [allocL, reduceCtorEq] at h <;> simp only [Op.operands] at H
  case alloc T =>
    split at h
    · rename_i z hz
      cases some_inj h
      obtain ⟨v, z1, z2, z3⟩ := zeroCells_some ρ hz
      refine ⟨.pointer (some ⟨w.heap.size, 0, none⟩), .cells v.cells T, v.cells.size, ?_, rfl, fun β ρ' hle hβ => ⟨OR.new (VRs.mono hle _ _ z2) z3, _, _, _, hβ, rfl⟩⟩
      simp only [execOp]
      refine run_value _ _ _ _ ?_
      simp [Instr.alloc, z1, newVar, newRow]
    · cases h
  case box T y =>
    split at h
    · rename_i cs hcs
      cases some_inj h
      obtain ⟨g1, g2⟩ := cellsOf_some (H y (by simp)) hcs
      refine ⟨.pointer (some ⟨w.heap.size, 0, none⟩), .cells (ev y).cells T, (ev y).cells.size, ?_, rfl, fun β ρ' hle hβ => ⟨OR.new (VRs.mono hle _ _ g1) g2, _, _, _, hβ, rfl⟩⟩
      simp only [execOp]
      refine run_value _ _ _ _ ?_
      simp [Instr.box, newVar, newRow]
    · cases h
  case buildSlice T len ps =>
    have hps := parts_PR (ρ := ρ) (e := e) (ev := ev) ps (fun p hp => H p.2 (by simp; exact ⟨p.1, by simpa using hp⟩))
    split at h
    · rename_i el hu
      split at h
      · rename_i z n hz hn
        obtain ⟨zv, z1, z2, z3⟩ := zeroCells_some ρ hz
        obtain ⟨n1, n2, _⟩ := sizeT_some hn
        split at h
        · rename_i hzl hle
          rw [nbeq] at hzl; rw [nble] at hle
          simp only [decide_eq_true_eq] at hzl hle
          have hzl' := VRs.length z2
          simp only [Array.length_toList] at hzl'
          split at h
          · rename_i hlen
            split at h
            · rename_i hnil
              cases some_inj h
              have hps0 : ps = #[] := by apply Array.ext'; simpa using hnil
              subst hps0
              refine ⟨.slice (some ⟨w.heap.size, 0, none⟩) 0 0, .cells #[] el, 0, ?_, rfl, fun β ρ' hle' hβ => ⟨OR.new (c := #[]) trivial (by simp), .inr ⟨_, _, _, _, _, hβ, rfl, fun _ => rfl, Nat.le_refl _, Nat.le_refl _, Nat.le_refl _, by omega, fun _ => rfl⟩⟩⟩
              simp only [execOp]
              refine run_value _ _ _ _ ?_
              simp only [Instr.buildSlice, Sem.run_bind, run_underlying hu, Result.andThen_ok, n1, Nat.zero_mul]
              simp [Instr.fill, newRow]
              rw [range_zero, Array.map_empty]
            · cases h
          · rename_i hlen
            have hlen0 : len ≠ 0 := fun e => hlen e
            split at h
            · rename_i cs hcs
              cases some_inj h
              have hrep := range_cells zv.cells.toList (by simp; omega) len
              simp only [Array.length_toList, Array.toArray_toList] at hrep
              have hsz : zv.cells.size = n := by omega
              obtain ⟨c', q1, q2, q3⟩ := fill_sound (fun i => some (i * n, n)) _ _ _ _ ((Array.range (len * n)).map (zv.cells[· % zv.cells.size]!)) hps (by rw [hsz] at hrep ⊢; rw [hrep]; exact replicate_VRs z2 len)
                (fun x hx => z3 x (by
                  have hx' : x ∈ ((Array.range (len * n)).map (zv.cells[· % zv.cells.size]!)).toList := by simpa using hx
                  rw [hsz] at hrep hx'; rw [hrep] at hx'
                  simpa using mem_flatten_replicate hx')) hcs
              have hl2 := VRs.length q2
              have hl3 := fillA_length _ _ _ _ hcs
              have hl4 : (List.replicate len z).flatten.length = len * n := by simp [hzl]
              simp only [Array.length_toList] at hl2
              refine ⟨.slice (some ⟨w.heap.size, 0, none⟩) len len, .cells c' el, c'.size, ?_, rfl, fun β ρ' hle' hβ => ⟨OR.new (VRs.mono hle' _ _ q2) q3, .inr ⟨_, _, _, _, _, hβ, rfl, fun _ => rfl, Nat.le_refl _, Nat.le_refl _, Nat.le_refl _, by omega, fun _ => rfl⟩⟩⟩
              simp only [execOp]
              refine run_value _ _ _ _ ?_
              have hne : ¬ (len * n > 2 ^ 24) := by omega
              have h0 : ¬ (len * n = 0) := by
                intro h0
                rcases Nat.mul_eq_zero.1 h0 with h0 | h0 <;> omega
              simp only [Instr.buildSlice, Sem.run_bind, run_underlying hu, Result.andThen_ok, n1, hne, if_false, h0, z1, Sem.run_pure, newRow, run_newObj]
              rw [q1]
              simp only [Sem.run_bind, run_newObj, Result.andThen_ok, Sem.run_pure]
              rfl
            · cases h
        · cases h
      · cases h
    · cases h
  case makeSlice T l c =>
    split at h
    · rename_i n m hn hm
      obtain ⟨k1, hk1⟩ := idx_some (H l (by simp)) hn
      obtain ⟨k2, hk2⟩ := idx_some (H c (by simp)) hm
      split at h
      · rename_i el hu
        split at h
        · rename_i z k hz hk
          obtain ⟨zv, z1, z2, z3⟩ := zeroCells_some ρ hz
          obtain ⟨n1, n2, i, hi, hiz⟩ := sizeT_some hk
          split at h
          · rename_i hzl hnm hm1 hob
            rw [nbeq] at hzl; rw [nble] at hnm hm1
            simp only [decide_eq_true_eq] at hzl hnm hm1
            simp only [okBytes, hi, nble, decide_eq_true_eq] at hob
            have hzl' := VRs.length z2
            simp only [Array.length_toList] at hzl'
            have ebytes : i.bytes * m ≤ 1000000 * 1000000 := Nat.mul_le_mul hob hm1
            have hnm1 : n ≤ 1000000 := by omega
            have w1 : IntKind.i64.wrap (Int.ofNat n) = (n : Int) := wrap_small hnm1
            have w2 : IntKind.i64.wrap (Int.ofNat m) = (m : Int) := wrap_small (by omega)
            have hti : ∀ w, (typeInfo el).run P w = .ok i w := fun w => by simp [typeInfo, hi]
            have hlarge : (decide ((m : Int) < 0) || decide ((i.bytes : Int) * (m : Int) > 2 ^ 48) || decide ((n : Int) < 0) || decide ((n : Int) > (m : Int))) = false := by
              have e1 : ¬ ((m : Int) < 0) := by omega
              have e2 : ¬ ((i.bytes : Int) * (m : Int) > 2 ^ 48) := by
                have h1 : ((i.bytes * m : Nat) : Int) ≤ ((1000000 * 1000000 : Nat) : Int) := Int.ofNat_le.2 ebytes
                have h2 : ((i.bytes * m : Nat) : Int) = (i.bytes : Int) * (m : Int) := Int.natCast_mul _ _
                have h48 : (2 : Int) ^ 48 = 281474976710656 := by decide
                rw [h48, ← h2]; omega
              have e3 : ¬ ((n : Int) < 0) := by omega
              have e4 : ¬ ((n : Int) > (m : Int)) := by omega
              rw [decide_eq_false e1, decide_eq_false e2, decide_eq_false e3, decide_eq_false e4]; rfl
            have c1 : ((decide ((m : Int) < 0) || decide ((i.bytes : Int) * (m : Int) > 2 ^ 48)) || decide ((n : Int) < 0) || decide ((n : Int) > (m : Int))) = false := hlarge
            split at h
            · have hn0 : n = 0 := by omega
              subst hn0
              cases some_inj h
              refine ⟨.slice (some ⟨w.heap.size, 0, none⟩) 0 0, .cells #[] el, 0, ?_, rfl, fun β ρ' hle' hβ => ⟨OR.new (c := #[]) trivial (by simp), .inr ⟨_, _, _, _, _, hβ, rfl, fun _ => rfl, Nat.le_refl _, Nat.le_refl _, Nat.le_refl _, by omega, fun _ => rfl⟩⟩⟩
              simp only [execOp]
              refine run_value _ _ _ _ ?_
              simp only [Instr.makeSlice, Sem.run_bind, run_underlying hu, Result.andThen_ok, hk1, hk2, asInt, asIntOf, Sem.run_pure, hti, w1, w2]
              rw [if_neg (by rw [c1]; exact Bool.false_ne_true)]
              simp only [Sem.run_bind, Sem.run_pure, Result.andThen_ok, run_askRoom, n1, Int.toNat_natCast]
              simp [newRow]
              rw [range_zero, Array.map_empty]
            · rename_i hm0
              have hm0' : m ≠ 0 := fun e => hm0 e
              cases some_inj h
              have hrep := range_cells zv.cells.toList (by simp; omega) m
              simp only [Array.length_toList, Array.toArray_toList] at hrep
              have hsz : zv.cells.size = k := by omega
              let c := ((Array.range (m * k)).map (zv.cells[· % zv.cells.size]!))
              have hc : c.toList = (List.replicate m zv.cells.toList).flatten := by
                show ((Array.range (m * k)).map (zv.cells[· % zv.cells.size]!)).toList = _
                rw [hsz] at hrep ⊢; exact hrep
              have hcs : c.size = m * k := by simp [c]
              refine ⟨.slice (some ⟨w.heap.size, 0, none⟩) n m, .cells c el, c.size, ?_, rfl, fun β ρ' hle' hβ => ⟨OR.new (by rw [hc]; exact VRs.mono hle' _ _ (replicate_VRs z2 m)) (fun x hx => z3 x (by
                have hx' : x ∈ c.toList := by simpa using hx
                rw [hc] at hx'
                simpa using mem_flatten_replicate hx')), .inr ⟨_, _, _, _, _, hβ, rfl, fun _ => rfl, hnm, Nat.le_refl _, Nat.le_refl _, by rw [hcs]; omega, fun _ => rfl⟩⟩⟩
              simp only [execOp]
              refine run_value _ _ _ _ ?_
              simp only [Instr.makeSlice, Sem.run_bind, run_underlying hu, Result.andThen_ok, hk1, hk2, asInt, asIntOf, Sem.run_pure, hti, w1, w2]
              rw [if_neg (by rw [c1]; exact Bool.false_ne_true)]
              have h0 : ¬ (m * k = 0) := by
                intro h0
                rcases Nat.mul_eq_zero.1 h0 with h0 | h0 <;> omega
              simp only [Sem.run_bind, Sem.run_pure, Result.andThen_ok, run_askRoom, n1, Int.toNat_natCast, h0, if_false, z1, newRow, run_newObj]
              rfl
          · cases h
        · cases h
      · cases h
    · cases h
  case makeMap t r =>
    split at h
    · cases some_inj h
      refine ⟨.map (some w.heap.size), .map #[] 0, 0, ?_, rfl, fun β ρ' hle' hβ => ⟨⟨#[], by show (w.heap.push _)[w.heap.size]? = _; simp, trivial⟩, _, _, _, hβ, rfl⟩⟩
      simp only [execOp]
      refine run_value _ _ _ _ ?_
      simp [Instr.makeMap]
    · cases h

end Go.Ab

namespace Go.Ab
open Go
variable {P : Program} [LoopTab]

theorem size_setCells (b : Nat) : ∀ (vs : List Value) (o : Nat) (w : World), (w.setCells b o vs).heap.size = w.heap.size
  | [], _, _ => rfl
  | v :: r, o, w => by rw [World.setCells, size_setCells b r]; simp
theorem tape_setCells (b : Nat) : ∀ (vs : List Value) (o : Nat) (w : World), (w.setCells b o vs).tape = w.tape
  | [], _, _ => rfl
  | v :: r, o, w => by rw [World.setCells, tape_setCells b r]; rfl
theorem Rest.setCells (w : World) (b o : Nat) (vs : List Value) : Rest w (w.setCells b o vs) :=
  ⟨World.os_setCells _ _ _ _, World.output_setCells _ _ _ _, tape_setCells _ _ _ _⟩

theorem Mark.setCell {w : World} {b sz : Nat} (h : Mark w b sz) (o : Nat) (v : Value) : Mark (w.setCell ⟨b, o, none⟩ v) b sz := by
  obtain ⟨c, elem, lo, hi, h1, h2, h3⟩ := h
  refine ⟨c.setIfInBounds o v, elem, lo, hi, ?_, by simpa using h2, by simpa using h3⟩
  obtain ⟨hb, h1⟩ := Array.getElem?_eq_some_iff.1 h1
  simp [World.setCell, hb, Array.getElem_modify, h1]
theorem Mark.setCells {b sz : Nat} : ∀ (vs : List Value) (o : Nat) (w : World), Mark w b sz → Mark (w.setCells b o vs) b sz
  | [], _, _, h => h
  | v :: r, o, w, h => by rw [World.setCells]; exact Mark.setCells r _ _ (h.setCell o v)

/-- Cells of a row, overwritten. -/
theorem OR.set {ρ : Rho} {w : World} {b base sz : Nat} {cs cs' new : List AV} (ho : OR ρ w b base sz (.cells cs)) {o : Nat} (h : overAt o new cs = some cs') {vs : List Value} (hv : VRs ρ new vs) (h1 : ∀ v ∈ vs, v.oneCell' = true) :
    OR ρ (w.setCells b (base + o) vs) b base sz (.cells cs') := by
  obtain ⟨g1, g2, g3, g4, g5⟩ := ho
  obtain ⟨k1, k2⟩ := overAt_some h
  have hl := VRs.length hv
  have hlen : cs'.length = cs.length := by rw [k2]; simp; omega
  have hsome : ∀ j, j < vs.length → (w.cell? ⟨b, base + o + j, none⟩).isSome = true := fun j hj => (g3 (base + o + j) (by omega)).1
  refine ⟨by omega, by rw [size_setCells]; exact g2, fun j hj => ?_, fun i a ha => ?_, g5.setCells _ _ _⟩
  · rw [World.frozen?_setCells]
    refine ⟨?_, (g3 j hj).2⟩
    by_cases hin : base + o ≤ j ∧ j < base + o + vs.length
    · have := World.cell?_setCells_in b vs (base + o) w hsome (j - (base + o)) (by omega)
      rw [show base + o + (j - (base + o)) = j by omega] at this
      rw [this]; rfl
    · rw [World.cell?_setCells_out b vs (base + o) w ⟨b, j, none⟩ (fun _ _ => by show j < base + o ∨ base + o + vs.length ≤ j; omega)]
      exact (g3 j hj).1
  · by_cases hin : o ≤ i ∧ i < o + vs.length
    · have hc := World.cell?_setCells_in b vs (base + o) w hsome (i - o) (by omega)
      rw [show base + o + (i - o) = base + i by omega] at hc
      rw [k2, List.append_assoc, List.getElem?_append_right (by simp; omega)] at ha
      have el : (cs.take o).length = o := by simp; omega
      rw [el, List.getElem?_append_left (by omega)] at ha
      obtain ⟨v, q1, q2⟩ := VRs.get hv _ a ha
      have hv' : vs[i - o] = v := by
        rw [List.getElem?_eq_getElem (by omega)] at q1; injection q1
      exact ⟨v, by rw [hc, hv'], q2, h1 v (List.mem_of_getElem? q1)⟩
    · rw [World.cell?_setCells_out b vs (base + o) w ⟨b, base + i, none⟩ (fun _ _ => by show base + i < base + o ∨ base + o + vs.length ≤ base + i; omega)]
      refine g4 i a ?_
      rw [k2, List.append_assoc] at ha
      by_cases hi : i < o
      · rw [List.getElem?_append_left (by simp; omega), List.getElem?_take_of_lt hi] at ha
        exact ha
      · rw [List.getElem?_append_right (by simp; omega)] at ha
        have el : (cs.take o).length = o := by simp; omega
        rw [el, List.getElem?_append_right (by omega), List.getElem?_drop] at ha
        rw [show o + new.length + (i - o - new.length) = i by omega] at ha
        exact ha

/-- The step of a store of cells into a row. -/
theorem Step.set {A : AH} {ρ : Rho} {w : World} (hr : HR A ρ w) {β b base sz o : Nat} {cs cs' new : List AV} (hg : A.get β = some (.cells cs)) (hρ : ρ β = some (b, base, sz)) (h : overAt o new cs = some cs') {vs : List Value} (hv : VRs ρ new vs)
    (h1 : ∀ v ∈ vs, v.oneCell' = true) : Step A ρ w (A.put β (.cells cs')) ρ (w.setCells b (base + o) vs) :=
  Step.put hr β _ _ b base sz hg rfl hρ ((hr.cells hg hρ).set h hv h1) (size_setCells _ _ _ _) (fun b' hb hne => World.heap_setCells_other w b (base + o) vs hb hne) (Rest.setCells _ _ _ _)

theorem OR.some {ρ : Rho} {w : World} {b base sz : Nat} {cs : List AV} (ho : OR ρ w b base sz (.cells cs)) {o n : Nat} (hn : o + n ≤ cs.length) :
    (∀ j, j < n → (w.cell? ⟨b, base + o + 0 + j, none⟩).isSome = true) ∧ ∀ j, j < n → w.frozen? ⟨b, base + o + 0 + j, none⟩ = false := by
  obtain ⟨g1, g2, g3, g4, g5⟩ := ho
  exact ⟨fun j hj => (g3 _ (by omega)).1, fun j hj => (g3 _ (by omega)).2⟩

theorem storeA_sound {A A' : AH} {ρ : Rho} {w : World} (hr : HR A ρ w) {T : TypeId} {x y : AV} {v u : Value} (hx : VR ρ x v) (hy : VR ρ y u) (h : storeA P A T x y = some A') :
    ∃ w', (Instr.storeAt T v u).run P w = .ok () w' ∧ Step A ρ w A' ρ w' := by
  unfold storeA at h
  split at h
  · rename_i β o
    split at h
    · rename_i cs hg
      split at h
      · rename_i new n hc hn
        split at h
        · rename_i hl
          rw [nbeq] at hl; simp only [decide_eq_true_eq] at hl
          split at h
          · rename_i cs' ho
            cases some_inj h
            obtain ⟨b, base, sz, g1, rfl⟩ := hx
            obtain ⟨q1, q2⟩ := cellsOf_some hy hc
            obtain ⟨n1, n2, _⟩ := sizeT_some hn
            have hlen := VRs.length q1
            simp only [Array.length_toList] at hlen
            have hfit := (overAt_some ho).1
            obtain ⟨s1, s2⟩ := (hr.cells hg g1).some (o := o) (n := u.cells.toList.length) (by simp; omega)
            have hst := run_storeCells_cells (P := P) b (base + o) u.cells.toList 0 w s1 s2 (fun v hv => q2 v (by simpa using hv))
            refine ⟨_, ?_, Step.set hr hg g1 ho q1 (fun v hv => q2 v (by simpa using hv))⟩
            have hsz : ¬ (u.cells.size ≠ n) := by omega
            simp only [Instr.storeAt, Instr.sureAddr, Sem.run_bind, Sem.run_pure, Result.andThen_ok, storeVar, n1, hsz, if_false]
            exact hst
          · cases h
        · cases h
      · cases h
    · cases h
  · cases h

/-- A map or an iterator set anew. -/
theorem Step.obj {A : AH} {ρ : Rho} {w : World} (hr : HR A ρ w) {β b base sz : Nat} {x x' : AObj} {o o' : Obj} (hg : A.get β = some x) (hl : x.live = true) (hρ : ρ β = some (b, base, sz)) (hb : w.heap[b]? = some o)
    (ho : OR ρ { w with heap := w.heap.setIfInBounds b o' } b base sz x') : Step A ρ w (A.put β x') ρ { w with heap := w.heap.setIfInBounds b o' } :=
  Step.put hr β _ _ b base sz hg hl hρ ho (by simp) (fun b' _ hne => by simp [Array.getElem?_setIfInBounds_ne (Ne.symm hne)]) ⟨rfl, rfl, rfl⟩

theorem Ents.length {ρ : Rho} : ∀ {es : List (AV × AV × Nat)} {ms : List MapEntry}, Ents ρ es ms → es.length = ms.length
  | [], [], _ => rfl
  | _ :: _, _ :: _, h => by simp [Ents.length h.2.2.2]
  | [], _ :: _, h => h.elim
  | _ :: _, [], h => h.elim
theorem Ents.append {ρ : Rho} {k v : AV} {n : Nat} {m : MapEntry} (hk : VR ρ k m.key) (hv : VR ρ v m.val) (hb : m.born = n) : ∀ {es : List (AV × AV × Nat)} {ms : List MapEntry}, Ents ρ es ms → Ents ρ (es ++ [(k, v, n)]) (ms ++ [m])
  | [], [], _ => ⟨hk, hv, hb, trivial⟩
  | _ :: _, _ :: _, ⟨h1, h2, h3, h4⟩ => ⟨h1, h2, h3, Ents.append hk hv hb h4⟩
  | [], _ :: _, h => h.elim
  | _ :: _, [], h => h.elim
theorem Ents.modify {ρ : Rho} {f : (AV × AV × Nat) → AV × AV × Nat} {g : MapEntry → MapEntry} : ∀ {es : List (AV × AV × Nat)} {ms : List MapEntry} (i : Nat), Ents ρ es ms →
    (∀ e m, es[i]? = some e → ms[i]? = some m → VR ρ e.1 m.key → VR ρ e.2.1 m.val → m.born = e.2.2 → VR ρ (f e).1 (g m).key ∧ VR ρ (f e).2.1 (g m).val ∧ (g m).born = (f e).2.2) → Ents ρ (es.modify i f) (ms.modify i g)
  | [], [], i, _, _ => by simp [Ents]
  | (k, v, n) :: es, m :: ms, 0, ⟨h1, h2, h3, h4⟩, hfg => by
    obtain ⟨q1, q2, q3⟩ := hfg (k, v, n) m rfl rfl h1 h2 h3
    exact ⟨q1, q2, q3, h4⟩
  | (k, v, n) :: es, m :: ms, i + 1, ⟨h1, h2, h3, h4⟩, hfg => by
    exact ⟨h1, h2, h3, Ents.modify i h4 fun e m' he hm => hfg e m' (by simpa using he) (by simpa using hm)⟩
  | [], _ :: _, _, h, _ => h.elim
  | _ :: _, [], _, h, _ => h.elim

theorem sameNow_bits {d : TypeDesc} {v u : Value} (hd : (∃ q, d = .int q) ∨ d = .string) (h : Instr.sameNow d v u = some true) : Instr.sameBits 10000 u v = true := by
  rcases hd with ⟨q, rfl⟩ | rfl
  · cases v <;> cases u <;> simp [Instr.sameNow] at h
    obtain ⟨rfl, h⟩ := h
    rename_i a k b
    subst h
    simp [Instr.sameBits]
  · cases v <;> cases u <;> simp [Instr.sameNow] at h
    rename_i s t
    rw [beq_toListBytes] at h
    show (t == s) = true
    rw [beq_toListBytes]
    have := beq_iff_eq.1 h
    rw [this]; simp

theorem mapSet_sound {A A' : AH} {ρ : Rho} {w : World} (hr : HR A ρ w) {M : TypeId} {m k x : AV} {mv kv xv : Value} (hm : VR ρ m mv) (hk : VR ρ k kv) (hx : VR ρ x xv) (h : mapSet P A M m k x = some A') :
    ∃ w', (Instr.mapUpdate M mv kv xv).run P w = .ok () w' ∧ Step A ρ w A' ρ w' := by
  unfold mapSet at h
  split at h
  · cases h
  · rename_i el hkk
    obtain ⟨kt, d, hu, hd, hkd⟩ := keyKind_some hkk
    split at h
    · rename_i β
      split at h
      · rename_i es clock hg
        obtain ⟨b, base, sz, g1, rfl⟩ := hm
        obtain ⟨ms, q1, q2⟩ := hr.map hg g1
        have hgo : (getObj b).run P w = .ok (.map ms clock) w := by simp [getObj, Sem.run, q1]
        have hso : ∀ o, (setObj b o).run P w = .ok () { w with heap := w.heap.setIfInBounds b o } := fun o => by simp [setObj, Sem.run, q1]
        have hck := run_checkKey (P := P) hk hd hkd false w
        have hb := (Array.getElem?_eq_some_iff.1 q1).1
        split at h
        · rename_i i a hf
          cases some_inj h
          obtain ⟨u, f1, f2, f3, ⟨k', n, f4⟩, me, f5, f6, f7⟩ := findA_sound hk hkd es ms.toList 0 _ q2 hf
          simp only [Nat.sub_zero] at f4 f5
          have hks : (Instr.keyThatStays me.key kv).run P w = .ok kv w := by
            have := sameNow_bits (by rcases hkd with ⟨⟨q, e⟩, _⟩ | ⟨e, _⟩; exact .inl ⟨q, e⟩; exact .inr e) f7
            simp [Instr.keyThatStays, this]
          have f5' : ms[i]? = some me := by simpa using f5
          refine ⟨_, ?_, Step.obj hr hg rfl g1 q1 (o' := .map (ms.modify i fun e => { e with key := kv, val := xv }) clock) ⟨ms.modify i fun e => { e with key := kv, val := xv }, by simp [hb], ?_⟩⟩
          · simp only [Instr.mapUpdate, Sem.run_bind, run_underlying hu, Result.andThen_ok, hgo, hck, Instr.findKey, run_underlying hd, f1, Sem.run_pure, f5', Option.map_some, Option.getD_some, hks, hso]
          · rw [Array.toList_modify]
            refine Ents.modify i q2 fun e m' he hm' h1 h2 h3 => ⟨hk, hx, h3⟩
        · rename_i hf
          cases some_inj h
          have f1 := findA_sound hk hkd es ms.toList 0 _ q2 hf
          refine ⟨_, ?_, Step.obj hr hg rfl g1 q1 (o' := .map (ms.push { key := kv, val := xv, born := clock }) (clock + 1)) ⟨ms.push { key := kv, val := xv, born := clock }, by simp [hb], ?_⟩⟩
          · simp only [Instr.mapUpdate, Sem.run_bind, run_underlying hu, Result.andThen_ok, hgo, hck, Instr.findKey, run_underlying hd, f1, Sem.run_pure, hso]
          · rw [Array.toList_push]
            exact Ents.append (m := { key := kv, val := xv, born := clock }) hk hx rfl q2
        · cases h
      · cases h
    · cases h

end Go.Ab

namespace Go.Ab
open Go
variable {P : Program} [LoopTab]

theorem elemCells_some {T : TypeId} {n : Nat} (ρ : Rho) (h : elemCells P T = some n) : ∃ el i z zv, P.underlying T = some (.slice el) ∧ P.info? el = some i ∧ i.bytes ≤ 1000000 ∧ (∀ w, (sizeOf el).run P w = .ok n w) ∧ 0 < n ∧
    (∀ w, (zeroValue el).run P w = .ok zv w) ∧ VRs ρ z zv.cells.toList ∧ (∀ x ∈ zv.cells, x.oneCell' = true) ∧ zv.cells.size = n := by
  unfold elemCells at h
  split at h
  · rename_i el hu
    split at h
    · rename_i k z hb hs hz
      split at h
      · rename_i hl
        rw [nbeq] at hl; simp only [decide_eq_true_eq] at hl
        cases some_inj h
        obtain ⟨n1, n2, i, hi, _⟩ := sizeT_some hs
        obtain ⟨zv, z1, z2, z3⟩ := zeroCells_some ρ hz
        have hl2 := VRs.length z2
        simp only [Array.length_toList] at hl2
        simp only [okBytes, hi, nble, decide_eq_true_eq] at hb
        exact ⟨el, i, z, zv, hu, hi, hb, n1, n2, z1, z2, z3, by omega⟩
      · cases h
    · cases h
  · cases h

theorem toB_extract0 (s : List Nat) (m : Nat) (hm : m ≤ s.length) : (toB s).extract 0 m = toB (s.take m) := by
  have := extract_toB s 0 m hm
  simpa using this

theorem srcCells_sound {A : AH} {ρ : Rho} {w : World} (hr : HR A ρ w) {es n : Nat} {x : AV} {l : List AV} {v : Value} (hx : VR ρ x v) (h : srcCells A es x = some (n, l)) :
    (Builtin.lenOf v).run P w = .ok n w ∧ l.length = n * es ∧ ∀ m, m ≤ n → ∃ vs : List Value, (∀ w' : World, w'.heap = w.heap → (Builtin.firstCells es m v).run P w' = .ok vs.toArray w') ∧ VRs ρ (l.take (m * es)) vs ∧ ∀ y ∈ vs, y.oneCell' = true := by
  unfold srcCells at h
  split at h
  · obtain rfl := hx
    cases some_inj h
    refine ⟨rfl, by simp, fun m hm => ⟨[], fun _ _ => by rfl, by simp [VRs], by simp⟩⟩
  · rename_i s
    rw [VR_str] at hx
    obtain ⟨hs, rfl⟩ := hx
    rw [brec, nbeq] at h
    split at h
    · rename_i he
      simp only [decide_eq_true_eq] at he
      subst he
      cases some_inj h
      refine ⟨by simp [Builtin.lenOf, toB_size], by simp, fun m hm => ⟨(s.take m).map fun b => .int .u8 (.ofNat b), ?_, ?_, ?_⟩⟩
      · intro w' _
        simp only [Builtin.firstCells, Sem.run_pure, toB_extract0 s m hm]
        congr 1
        apply Array.ext'
        simp only [Array.toList_map, toB, List.map_map]
        apply List.map_congr_left
        intro b hb
        have : b < 256 := hs b (List.mem_of_mem_take hb)
        simp [UInt8.toNat_ofNat', Nat.mod_eq_of_lt this]
      · rw [Nat.mul_one, ← List.map_take]
        exact VRs.map _ _ _ fun b _ => rfl
      · intro y hy
        obtain ⟨b, _, rfl⟩ := List.mem_map.1 hy
        rfl
    · cases h
  · rename_i β off k cap ex es'
    split at h
    · cases some_inj h
      obtain ⟨a, c, rfl⟩ := VR.slc hx
      refine ⟨by simp [Builtin.lenOf], by simp, fun m hm => ⟨[], fun w' _ => ?_, by simp [VRs], by simp⟩⟩
      have hm0 : m = 0 := by omega
      subst hm0
      simp [Builtin.firstCells, loadCells, loadCellsFrom]
    rename_i hk0
    rcases hx with ⟨_, h0, _⟩ | ⟨b, base, sz, o', cap', g1, rfl, g3, g4, g5, g6, g7, g8⟩
    · exact (hk0 h0).elim
    split at h
    · rename_i cs hg he
      rw [nbeq] at he; simp only [decide_eq_true_eq] at he
      subst he
      split at h
      · rename_i q hq
        rw [takeN_eq, dropN_eq] at hq
        cases some_inj h
        split at hq
        · rename_i hlen
          cases some_inj hq
          simp only [List.length_drop] at hlen
          have e1 : Nat.mul n es = n * es := rfl
          rw [e1] at hlen
          refine ⟨rfl, by simp; omega, fun m hm => ?_⟩
          by_cases h0 : n * es = 0
          · have hm0 : m * es = 0 := Nat.eq_zero_of_le_zero (h0 ▸ Nat.mul_le_mul_right es hm)
            refine ⟨[], ?_, by rw [hm0]; simp [VRs], by simp⟩
            intro w' _
            simp [Builtin.firstCells, hm0, loadCells, loadCellsFrom]
          · have hn0 : 0 < n := by
              rcases Nat.eq_zero_or_pos n with e | e
              · subst e; simp at h0
              · exact e
            have hoff := g8 (.inl hn0)
            subst hoff
            have hle : m * es ≤ n * es := Nat.mul_le_mul_right es hm
            obtain ⟨vs, v1, v2, v3, v4⟩ := (hr.read hg g1).list off (m * es) (by omega)
            have hl : ∀ w' : World, w'.heap = w.heap → _ := fun w' hw' => run_loadCells_list (P := P) w' ⟨b, base + off, none⟩ vs (fun j v hj => by
              rw [Addr.add_lit, cell?_congr (w := w) (by rw [hw'])]; exact v2 j v hj)
            rw [v1] at hl
            refine ⟨vs, hl, ?_, v4⟩
            rw [e1, List.take_take, Nat.min_eq_left hle]
            exact v3
        · cases hq
      · cases h
    · cases h
  · cases h

end Go.Ab

namespace Go.Ab
open Go
variable {P : Program} [LoopTab]

theorem next_bound {need sCap bytes : Nat} (h1 : sCap < need) (h2 : need ≤ 1000000) (h3 : bytes ≤ 1000000) : ¬ (Builtin.nextslicecap need sCap * bytes > 2 ^ 48) := by
  have hg : ∀ (r c : Nat), c ≤ 4000000 → Builtin.growBy need r c ≤ 4000000 := by
    intro r
    induction r with
    | zero => intro c hc; exact hc
    | succ r ih =>
      intro c hc
      simp only [Builtin.growBy]
      split
      · exact hc
      · exact ih _ (by omega)
  have hn : Builtin.nextslicecap need sCap ≤ 4000000 := by
    unfold Builtin.nextslicecap
    split
    · omega
    · split
      · omega
      · exact hg 4 sCap (by omega)
  have := Nat.mul_le_mul hn h3
  have h48 : (2 : Nat) ^ 48 = 281474976710656 := by decide
  omega

/-- append that finds the room. -/
theorem run_append_room {w : World} {sT xT elem : TypeId} {es : Nat} {tys : Array TypeId} (h0 : tys[0]? = some sT) (h1 : tys[1]? = some xT) (hu : P.underlying sT = some (.slice elem)) (hx : P.underlying xT = some .string ∨ ∃ e', P.underlying xT = some (.slice e'))
    (hz : ∀ w, (sizeOf elem).run P w = .ok es w) {ty : TypeId} {base : Option Addr} {sLen sCap n : Nat} {xv : Value} (hl : (Builtin.lenOf xv).run P w = .ok n w) (hroom : sLen + n ≤ sCap) {vs : List Value}
    (hf : (Builtin.firstCells es n xv).run P w = .ok vs.toArray w) :
    (Builtin.append_ tys ty #[.slice base sLen sCap, xv]).run P w =
      (((match base with | some a => storeCells (a.add (sLen * es)) vs | none => pure ()) : Sem Unit).run P w).andThen fun _ w => .ok (.slice base (sLen + n) sCap) w := by
  rcases hx with hx | ⟨e', hx⟩
  · cases base <;> simp [Builtin.append_, h0, h1, run_underlying hu, run_underlying hx, hz, hl, hroom, hf]
  · cases base <;> simp [Builtin.append_, h0, h1, run_underlying hu, run_underlying hx, hz, hl, hroom, hf]

/-- append that does not. -/
theorem run_append_grows {w : World} {sT xT elem : TypeId} {i : TypeInfo} {zv : Value} {es : Nat} {tys : Array TypeId} (h0 : tys[0]? = some sT) (h1 : tys[1]? = some xT) (hu : P.underlying sT = some (.slice elem)) (hx : P.underlying xT = some .string ∨ ∃ e', P.underlying xT = some (.slice e'))
    (hi : P.info? elem = some i) (hb : i.bytes ≤ 1000000) (hz : ∀ w, (sizeOf elem).run P w = .ok es w) (hzv : ∀ w, (zeroValue elem).run P w = .ok zv w) {ty : TypeId} {base : Option Addr} {sLen sCap n : Nat} {xv : Value}
    (hl : (Builtin.lenOf xv).run P w = .ok n w) (hroom : sCap < sLen + n) (hsmall : sLen + n ≤ 1000000) {vs us : List Value}
    (hf : ∀ w', w'.heap = w.heap → (Builtin.firstCells es n xv).run P w' = .ok vs.toArray w') (hfo : ∀ w', w'.heap = w.heap → (Builtin.firstCells es sLen (.slice base sLen sCap)).run P w' = .ok us.toArray w') :
    ∃ c, sLen + n ≤ c ∧ (Builtin.append_ tys ty #[.slice base sLen sCap, xv]).run P w =
      .ok (.slice (some ⟨w.heap.size, 0, none⟩) (sLen + n) c) (w.drew.alloc (.cells (us.toArray ++ vs.toArray ++ Builtin.zeroCells zv.cells (c - (sLen + n))) elem)) := by
  have hn : ¬ (sLen + n ≤ sCap) := by omega
  have h63' : ¬ (9223372036854775807 < ((sLen : Int) + (n : Int))) := by omega
  have h48' := next_bound hroom hsmall hb
  have h48'' : ¬ (281474976710656 < Builtin.nextslicecap (sLen + n) sCap * i.bytes) := by
    have h48 : (2 : Nat) ^ 48 = 281474976710656 := by decide
    rw [h48] at h48'; exact h48'
  have e1 := hf w.drew rfl
  have e2 := hfo w.drew rfl
  have hti : ∀ w, (typeInfo elem).run P w = .ok i w := fun w => by simp [typeInfo, hi]
  refine ⟨(Question.appendCap (sLen + n) sCap elem).cut (w.tape w.drawn (.appendCap (sLen + n) sCap elem)), by simp [Question.cut], ?_⟩
  rcases hx with hx | ⟨e', hx⟩
  · simp [Builtin.append_, h0, h1, run_underlying hu, run_underlying hx, hz, hl, hn, h63', h48'', hti, Question.forced, e1, e2, hzv, newRow]
    congr 1; congr 1; apply Array.ext'; simp [List.append_assoc]
  · simp [Builtin.append_, h0, h1, run_underlying hu, run_underlying hx, hz, hl, hn, h63', h48'', hti, Question.forced, e1, e2, hzv, newRow]
    congr 1; congr 1; apply Array.ext'; simp [List.append_assoc]

end Go.Ab

namespace Go.Ab
open Go
variable {P : Program} [LoopTab]

theorem HR.same {A : AH} {ρ : Rho} {w w' : World} (h : HR A ρ w) (hh : w'.heap = w.heap) : HR A ρ w' := by
  refine ⟨fun β x hx => ?_, h.inj, h.top⟩
  obtain ⟨b, base, sz, h1, h2⟩ := h.obj β x hx
  exact ⟨b, base, sz, h1, h2.congr (fun _ _ h => h) (by rw [hh]; exact Nat.le_refl _) (by rw [hh])⟩

/-- The first cells of a slice, read. -/
theorem own_cells {A : AH} {ρ : Rho} {w : World} (hr : HR A ρ w) {β off len cap es b base sz o' cap' : Nat} {ex : Bool} {cs old : List AV} (hρ : ρ β = some (b, base, sz)) (hg : A.get β = some (.cells cs))
    (ht : takeN (Nat.mul len es) (dropN off cs) = some old) (h8 : 0 < len → o' = base + off) :
    ∃ us : List Value, (∀ w' : World, w'.heap = w.heap → (Builtin.firstCells es len (.slice (some ⟨b, o', none⟩) len cap')).run P w' = .ok us.toArray w') ∧ VRs ρ old us ∧ (∀ y ∈ us, y.oneCell' = true) ∧ old.length = len * es := by
  rw [takeN_eq, dropN_eq] at ht
  split at ht
  · rename_i hlen
    cases some_inj ht
    simp only [List.length_drop] at hlen
    have e1 : Nat.mul len es = len * es := rfl
    rw [e1] at hlen
    by_cases h0 : len * es = 0
    · rw [e1, h0]
      refine ⟨[], fun w' _ => ?_, by simp [VRs], by simp, by simp⟩
      simp [Builtin.firstCells, h0, loadCells, loadCellsFrom]
    · have hn0 : 0 < len := by
        rcases Nat.eq_zero_or_pos len with e | e
        · subst e; simp at h0
        · exact e
      have hoff := h8 hn0
      subst hoff
      obtain ⟨vs, v1, v2, v3, v4⟩ := (hr.cells hg hρ).to_ro.list off (len * es) (by omega)
      refine ⟨vs, fun w' hw' => ?_, by rw [e1]; exact v3, v4, by rw [e1]; simp; omega⟩
      have hl := run_loadCells_list (P := P) w' ⟨b, base + off, none⟩ vs (fun j v hj => by
        rw [Addr.add_lit, cell?_congr (w := w) (by rw [hw'])]; exact v2 j v hj)
      rw [v1] at hl
      exact hl
  · cases ht

/-- A row gone on with in its own block. -/
theorem OR.grow {ρ : Rho} {w : World} {b base sz : Nat} {cs : List AV} (ho : OR ρ w b base sz (.cells cs)) {o' off k : Nat} {old new : List AV} {vs : List Value} (hold : old = (cs.drop off).take k) (hk : k + off ≤ cs.length ∨ k = 0) (h8 : 0 < k → o' = base + off)
    (hv : VRs ρ new vs) (h1 : ∀ v ∈ vs, v.oneCell' = true) (hfit : o' + k + vs.length ≤ sz) : OR ρ (w.setCells b (o' + k) vs) b o' sz (.cells (old ++ new)) := by
  obtain ⟨g1, g2, g3, g4, g5⟩ := ho
  have hl := VRs.length hv
  have hol : old.length = k := by
    rw [hold]; simp; rcases hk with hk | hk <;> omega
  have hsome : ∀ j, j < vs.length → (w.cell? ⟨b, o' + k + j, none⟩).isSome = true := fun j hj => (g3 _ (by omega)).1
  refine ⟨by simp; omega, by rw [size_setCells]; exact g2, fun j hj => ?_, fun i a ha => ?_, g5.setCells _ _ _⟩
  · rw [World.frozen?_setCells]
    refine ⟨?_, (g3 j hj).2⟩
    by_cases hin : o' + k ≤ j ∧ j < o' + k + vs.length
    · have := World.cell?_setCells_in b vs (o' + k) w hsome (j - (o' + k)) (by omega)
      rw [show o' + k + (j - (o' + k)) = j by omega] at this
      rw [this]; rfl
    · rw [World.cell?_setCells_out b vs (o' + k) w ⟨b, j, none⟩ (fun _ _ => by show j < o' + k ∨ o' + k + vs.length ≤ j; omega)]
      exact (g3 j hj).1
  · by_cases hi : i < k
    · rw [List.getElem?_append_left (by omega), hold, List.getElem?_take_of_lt hi, List.getElem?_drop] at ha
      have hoff := h8 (by omega)
      obtain ⟨v, q1, q2, q3⟩ := g4 _ a ha
      refine ⟨v, ?_, q2, q3⟩
      rw [World.cell?_setCells_out b vs (o' + k) w ⟨b, o' + i, none⟩ (fun _ _ => by show o' + i < o' + k ∨ o' + k + vs.length ≤ o' + i; omega)]
      rw [hoff, Nat.add_assoc]; exact q1
    · rw [List.getElem?_append_right (by omega), hol] at ha
      obtain ⟨v, q1, q2⟩ := VRs.get hv _ a ha
      have hlt := (List.getElem?_eq_some_iff.1 q1).1
      have hc := World.cell?_setCells_in b vs (o' + k) w hsome (i - k) hlt
      rw [show o' + k + (i - k) = o' + i by omega] at hc
      have hv' : vs[i - k] = v := by
        rw [List.getElem?_eq_getElem (by omega)] at q1; injection q1
      exact ⟨v, by rw [hc, hv'], q2, h1 v (List.mem_of_getElem? q1)⟩

/-- The step of cells written behind those of a slice, in its block, under a new name. -/
theorem Step.grow {A : AH} {ρ : Rho} {w : World} (hr : HR A ρ w) {β b base sz : Nat} {cs : List AV} (hg : A.get β = some (.cells cs)) (hρ : ρ β = some (b, base, sz)) (hfree : ρ A.next = none) {o' off k : Nat} {old new : List AV} {vs : List Value}
    (hold : old = (cs.drop off).take k) (hk : k + off ≤ cs.length ∨ k = 0) (h8 : 0 < k → o' = base + off) (hv : VRs ρ new vs) (h1 : ∀ v ∈ vs, v.oneCell' = true) (hfit : o' + k + vs.length ≤ sz) :
    Step A ρ w ((A.push (.cells (old ++ new))).put β .dead) (ρ.add A.next (b, o', sz)) (w.setCells b (o' + k) vs) :=
  Step.renew hr β (.cells cs) (.cells (old ++ new)) b base sz o' hg rfl hρ hfree (OR.grow (ρ := ρ.add A.next (b, o', sz)) ((hr.cells hg hρ).congr (Rho.le_add hfree) (Nat.le_refl _) rfl) hold hk h8 (VRs.mono (Rho.le_add hfree) _ _ hv) h1 hfit) (size_setCells _ _ _ _)
    (fun b' hb hne => World.heap_setCells_other w b (o' + k) vs hb hne) (Rest.setCells _ _ _ _)

/-- The step of a new row. -/
theorem Step.row {A : AH} {ρ : Rho} {w : World} (hr : HR A ρ w) (hfree : ρ A.next = none) {c : Array Value} {elem : TypeId} {cs : List AV} (hc : VRs (ρ.add A.next (w.heap.size, 0, c.size)) cs (c.toList.take cs.length)) (hl : cs.length ≤ c.size) (h1 : ∀ x ∈ c, x.oneCell' = true) :
    Step A ρ w (A.push (.cells cs)) (ρ.add A.next (w.heap.size, 0, c.size)) (w.drew.alloc (.cells c elem)) := by
  have s1 : Step A ρ w A ρ w.drew := Step.heap hr rfl ⟨rfl, rfl, rfl⟩
  refine s1.trans (Step.push s1.hr (.cells cs) 0 c.size hfree ?_ (by simp) (fun b' hb' => ?_) ⟨rfl, rfl, rfl⟩)
  · refine ⟨by omega, by simp, fun j hj => ?_, fun i a ha => ?_, Mark.new w.drew _ _⟩
    · rw [World.cell?_alloc_new, World.frozen?_alloc_new]
      refine ⟨?_, rfl⟩
      rw [Array.getElem?_eq_getElem hj]; rfl
    · obtain ⟨v, q1, q2⟩ := VRs.get hc i a ha
      have q1' : c[i]? = some v := by
        rw [List.getElem?_take] at q1
        split at q1
        · simpa using q1
        · cases q1
      refine ⟨v, by rw [Nat.zero_add, World.cell?_alloc_new]; exact q1', q2, h1 v (Array.mem_of_getElem? q1')⟩
  · have hne : b' ≠ w.heap.size := Nat.ne_of_lt hb'
    simp [World.alloc, Array.getElem?_push, hne]
end Go.Ab

namespace Go.Ab
open Go
variable {P : Program} [LoopTab]

theorem zero_size (zv : Array Value) (n : Nat) : (Builtin.zeroCells zv n).size = n * zv.size := by
  simp [Builtin.zeroCells]
theorem zero_one {zv : Array Value} (h : ∀ x ∈ zv, x.oneCell' = true) (n : Nat) : ∀ x ∈ Builtin.zeroCells zv n, x.oneCell' = true := by
  intro x hx
  simp only [Builtin.zeroCells, Array.mem_map, Array.mem_range] at hx
  obtain ⟨i, hi, rfl⟩ := hx
  have hz : 0 < zv.size := by
    rcases Nat.eq_zero_or_pos zv.size with e | e
    · rw [e] at hi; simp at hi
    · exact e
  have hm : i % zv.size < zv.size := Nat.mod_lt _ hz
  simp only [getElem!_pos, hm]
  exact h _ (Array.getElem_mem hm)

/-- Cells stored behind a slice, in its own block. -/
theorem run_room {ρ : Rho} {w : World} {b base sz : Nat} {cs : List AV} (ho : OR ρ w b base sz (.cells cs)) (o : Nat) {vs : List Value} (h1 : ∀ v ∈ vs, v.oneCell' = true) (hfit : o + vs.length ≤ sz) :
    (storeCells ⟨b, o, none⟩ vs).run P w = .ok () (w.setCells b o vs) := by
  have := run_storeCells_cells (P := P) b o vs 0 w (fun j hj => (ho.2.2.1 _ (by omega)).1) (fun j hj => (ho.2.2.1 _ (by omega)).2) h1
  simpa using this

/-- The result of an append that takes a new row. -/
theorem append_new {A : AH} {ρ : Rho} {w : World} (hr : HR A ρ w) (hfree : ρ A.next = none) {es k n c : Nat} {elem : TypeId} {zv : Array Value} (hz : zv.size = es) (hz1 : ∀ x ∈ zv, x.oneCell' = true) {old new : List AV} {us vs : List Value} (hu : VRs ρ old us) (hv : VRs ρ new vs)
    (u1 : ∀ x ∈ us, x.oneCell' = true) (v1 : ∀ x ∈ vs, x.oneCell' = true) (ho : old.length = k * es) (hn : new.length = n * es) (hc : k + n ≤ c) :
    ∃ ρ', Step A ρ w (A.push (.cells (old ++ new))) ρ' (w.drew.alloc (.cells (us.toArray ++ vs.toArray ++ Builtin.zeroCells zv (c - (k + n))) elem)) ∧
      VR ρ' (.slice A.next 0 (k + n) (k + n) false es) (.slice (some ⟨w.heap.size, 0, none⟩) (k + n) c) := by
  have hlu := VRs.length hu
  have hlv := VRs.length hv
  have hsz : (us.toArray ++ vs.toArray ++ Builtin.zeroCells zv (c - (k + n))).size = c * es := by
    simp only [Array.size_append, List.size_toArray, zero_size, hz, ← hlu, ← hlv, ho, hn]
    rw [← Nat.add_mul, ← Nat.add_mul]
    congr 1; omega
  refine ⟨_, Step.row hr hfree (c := us.toArray ++ vs.toArray ++ Builtin.zeroCells zv (c - (k + n))) (cs := old ++ new) ?_ ?_ ?_, ?_⟩
  · have e : (us.toArray ++ vs.toArray ++ Builtin.zeroCells zv (c - (k + n))).toList.take (old ++ new).length = us ++ vs := by
      simp only [Array.toList_append]
      rw [List.take_append_of_le_length (by simp; omega)]
      rw [List.take_of_length_le (by simp; omega)]
    rw [e]
    exact VRs.mono (Rho.le_add hfree) _ _ (VRs.append hu hv)
  · rw [hsz, List.length_append, ho, hn, ← Nat.add_mul]
    exact Nat.mul_le_mul_right es hc
  · intro x hx
    simp only [Array.mem_append, List.mem_toArray] at hx
    rcases hx with (hx | hx) | hx
    · exact u1 x hx
    · exact v1 x hx
    · exact zero_one hz1 _ x hx
  · rw [hsz]
    exact .inr ⟨w.heap.size, 0, c * es, 0, c, Rho.add_same _ _ _, rfl, (fun h => by cases h), Nat.le_refl _, hc, Nat.le_refl _, by omega, fun _ => rfl⟩

theorem Step.dead {A A' : AH} {ρ ρ' : Rho} {w w' : World} (h : Step A ρ w A' ρ' w') (β : Nat) (x : AObj) (hx : A'.get β = some x) : Step A ρ w (A'.put β .dead) ρ' w' := h.trans (Step.kill h.hr β x hx)

theorem appendA_sound {A A' : AH} {ρ : Rho} {w : World} (hr : HR A ρ w) (hfree : A.next < A'.next → ρ A.next = none) {tys : Array TypeId} {sT xT : TypeId} {ty : TypeId} {es : Nat} (h0 : tys[0]? = some sT) (h1 : tys[1]? = some xT)
    (he : elemCells P sT = some es) (hx : P.underlying xT = some .string ∨ ∃ e', P.underlying xT = some (.slice e')) {s x r : AV} {sv xv : Value} (hs : VR ρ s sv) (hxv : VR ρ x xv) (h : appendA A es s x = some (r, A')) :
    ∃ ρ' w' val, (Builtin.append_ tys ty #[sv, xv]).run P w = .ok val w' ∧ VR ρ' r val ∧ Step A ρ w A' ρ' w' := by
  obtain ⟨el, i, z, zv, hu, hi, hb, hz, hpos, hzv, z2, z3, z4⟩ := elemCells_some ρ he
  unfold appendA at h
  split at h
  · cases h
  · rename_i n new hsrc
    obtain ⟨x1, x2, x3⟩ := srcCells_sound (P := P) hr hxv hsrc
    split at h
    · -- a nil slice
      obtain rfl := hs
      split at h
      · cases some_inj h
        obtain ⟨vs, v1, v2, v3⟩ := x3 0 (Nat.le_refl _)
        refine ⟨ρ, w, _, run_append_room (P := P) h0 h1 hu hx hz x1 (by simp) (v1 w rfl), rfl, Step.refl hr⟩
      · rename_i hn0
        split at h
        · rename_i hle
          rw [nble] at hle; simp only [decide_eq_true_eq] at hle
          cases some_inj h
          obtain ⟨vs, v1, v2, v3⟩ := x3 n (Nat.le_refl _)
          have hn1 : n ≠ 0 := fun e => hn0 e
          obtain ⟨c, c1, c2⟩ := run_append_grows (P := P) h0 h1 hu hx hi hb hz hzv (ty := ty) (base := none) (sLen := 0) (sCap := 0) x1 (by omega) (by omega) v1 (us := []) (fun w' _ => by simp [Builtin.firstCells])
          rw [List.take_of_length_le (by omega)] at v2
          obtain ⟨ρ', p1, p2⟩ := append_new hr (hfree (Nat.lt_succ_self _)) (elem := el) z4 z3 (old := []) (us := []) (k := 0) trivial v2 (by simp) v3 (by simp) x2 c1
          simp only [List.nil_append, Nat.zero_add] at p1 p2
          exact ⟨ρ', _, _, c2, by simpa using p2, by simpa using p1⟩
        · cases h
    · rename_i β off len cap ex es'
      rcases hs with ⟨rfl, rfl, rfl, a, rfl⟩ | ⟨b, base, sz, o', cap', g1, rfl, g3, g4, g5, g6, g7, g8⟩
      · -- an empty slice, wherever it lies
        split at h
        · cases some_inj h
          obtain ⟨vs, v1, v2, v3⟩ := x3 0 (Nat.le_refl _)
          simp only [Nat.zero_mul, List.take_zero] at v2
          have hvs : vs = [] := by
            cases vs with
            | nil => rfl
            | cons => exact v2.elim
          subst hvs
          refine ⟨ρ, w, _, run_append_room (P := P) h0 h1 hu hx hz x1 (by omega) (v1 w rfl), ?_, ?_⟩
          · exact .inl ⟨rfl, rfl, rfl, a, rfl⟩
          · exact Step.refl hr
        · rename_i hn0
          have hn1 : n ≠ 0 := fun e => hn0 e
          obtain ⟨vs, v1, v2, v3⟩ := x3 n (Nat.le_refl _)
          rw [List.take_of_length_le (by omega)] at v2
          split at h
          · rename_i cs hg hes hle
            rw [nbeq] at hes; simp only [decide_eq_true_eq] at hes
            subst hes
            rw [nble] at hle; simp only [decide_eq_true_eq] at hle
            have hle' : 0 + n ≤ 1000000 := hle
            split at h
            · split at h
              · rename_i hfit
                rw [nble] at hfit; simp only [decide_eq_true_eq] at hfit
                have hfit' : 0 + n ≤ 0 := hfit
                omega
              · split at h
                · rename_i old hold
                  cases some_inj h
                  have hold' : old = [] := by
                    have e1 : Nat.mul 0 es = 0 := Nat.zero_mul _
                    rw [e1, takeN_eq] at hold
                    simpa using hold.symm
                  subst hold'
                  obtain ⟨c, c1, c2⟩ := run_append_grows (P := P) h0 h1 hu hx hi hb hz hzv (ty := ty) (base := some a) (sLen := 0) (sCap := 0) x1 (by omega) (by omega) v1 (us := []) (fun w' _ => by simp [Builtin.firstCells, loadCells, loadCellsFrom])
                  obtain ⟨ρ', p1, p2⟩ := append_new hr (hfree (Nat.lt_succ_self _)) (elem := el) z4 z3 (old := []) (us := []) (k := 0) trivial v2 (by simp) v3 (by simp) x2 c1
                  exact ⟨ρ', _, _, c2, p2, p1⟩
                · cases h
            · rename_i hh
              cases hh
          · cases h
      split at h
      · cases some_inj h
        obtain ⟨vs, v1, v2, v3⟩ := x3 0 (Nat.le_refl _)
        simp only [Nat.zero_mul, List.take_zero] at v2
        have hvs : vs = [] := by
          cases vs with
          | nil => rfl
          | cons => exact v2.elim
        subst hvs
        refine ⟨ρ, w, _, run_append_room (P := P) h0 h1 hu hx hz x1 (by omega) (v1 w rfl), ?_, ?_⟩
        · exact .inr ⟨b, base, sz, o', cap', g1, rfl, g3, g4, g5, g6, g7, g8⟩
        · exact Step.refl hr
      · rename_i hn0
        have hn1 : n ≠ 0 := fun e => hn0 e
        obtain ⟨vs, v1, v2, v3⟩ := x3 n (Nat.le_refl _)
        rw [List.take_of_length_le (by omega)] at v2
        have hlv := VRs.length v2
        split at h
        · rename_i cs hg hes hle
          rw [nbeq] at hes; simp only [decide_eq_true_eq] at hes
          subst hes
          rw [nble] at hle; simp only [decide_eq_true_eq] at hle
          have hle' : len + n ≤ 1000000 := hle
          have ho := hr.cells hg g1
          have hroom : len + n ≤ cap' → o' + len * es + vs.length ≤ sz := fun hc => by
            have := Nat.mul_le_mul_right es hc
            rw [← hlv, x2]
            rw [Nat.add_mul] at this; omega
          -- in place, under the old name
          have inplace : ∀ cs', len + n ≤ cap → o' = base + off → overAt (Nat.add off (Nat.mul len es)) new cs = some cs' →
              ∃ ρ' w' val, (Builtin.append_ tys ty #[.slice (some ⟨b, o', none⟩) len cap', xv]).run P w = .ok val w' ∧ VR ρ' (.slice β off (len + n) cap ex es) val ∧ Step A ρ w (A.put β (.cells cs')) ρ' w' := by
            intro cs' hc hoff hov
            have hstep := Step.set hr hg g1 hov v2 v3
            have hst := run_room (P := P) ho (o' + len * es) v3 (hroom (by omega))
            refine ⟨ρ, _, .slice (some ⟨b, o', none⟩) (len + n) cap', ?_, ?_, hstep⟩
            · rw [run_append_room (P := P) h0 h1 hu hx hz x1 (by omega) (v1 w rfl)]
              show ((storeCells _ _).run P w).andThen _ = _
              rw [show (⟨b, o', none⟩ : Addr).add (len * es) = ⟨b, o' + len * es, none⟩ from Addr.add_lit _ _ _, hst, hoff, Nat.add_assoc]
              rfl
            · exact .inr ⟨b, base, sz, o', cap', g1, rfl, g3, by omega, g5, g6, g7, fun _ => hoff⟩
          -- a new row
          have newrow : ∀ old, ρ A.next = none → cap' < len + n → takeN (Nat.mul len es) (dropN off cs) = some old →
              ∃ ρ' w' val, (Builtin.append_ tys ty #[.slice (some ⟨b, o', none⟩) len cap', xv]).run P w = .ok val w' ∧ VR ρ' (.slice A.next 0 (len + n) (len + n) false es) val ∧ Step A ρ w (A.push (.cells (old ++ new))) ρ' w' := by
            intro old hfree hc hold
            obtain ⟨us, u1, u2, u3, u4⟩ := own_cells (P := P) hr (ex := ex) (cap := cap) (cap' := cap') g1 hg hold fun h => g8 (.inl h)
            obtain ⟨c, c1, c2⟩ := run_append_grows (P := P) h0 h1 hu hx hi hb hz hzv (ty := ty) x1 hc hle' v1 u1
            obtain ⟨ρ', p1, p2⟩ := append_new hr hfree (elem := el) z4 z3 u2 v2 u3 v3 u4 x2 c1
            exact ⟨ρ', _, _, c2, p2, p1⟩
          have hβ : ∀ old, (A.push (.cells (old ++ new))).get β = some (.cells cs) := fun old => by
            have := hr.top _ _ hg
            rw [AH.get_push, if_neg (by omega)]; exact hg
          split at h
          · have hcap := g3 rfl
            split at h
            · rename_i hfit
              rw [nble] at hfit; simp only [decide_eq_true_eq] at hfit
              have hfit' : len + n ≤ cap := hfit
              split at h
              · rename_i cs' hov
                cases some_inj h
                exact inplace cs' hfit' (g8 (.inr ⟨rfl, by omega⟩)) hov
              · cases h
            · rename_i hfit
              rw [nble] at hfit; simp only [decide_eq_false_iff_not] at hfit
              have hfit' : ¬ (len + n ≤ cap) := hfit
              split at h
              · rename_i old hold
                cases some_inj h
                exact newrow old (hfree (Nat.lt_succ_self _)) (by omega) hold
              · cases h
          · split at h
            · rename_i hfit
              simp only [Bool.and_eq_true, nble, nblt, decide_eq_true_eq] at hfit
              obtain ⟨hfit, hpos'⟩ := hfit
              have hfit' : len + n ≤ cap := hfit
              split at h
              · rename_i cs' hov
                cases some_inj h
                exact inplace cs' hfit' (g8 (.inl hpos')) hov
              · cases h
            · split at h
              · rename_i old hold
                cases some_inj h
                have hfree := hfree (Nat.lt_succ_self _)
                by_cases hc : len + n ≤ cap'
                · -- it found the room
                  have hk : len * es + off ≤ cs.length ∨ len * es = 0 := by
                    rw [takeN_eq, dropN_eq] at hold
                    split at hold
                    · rename_i hq
                      simp only [List.length_drop] at hq
                      have e1 : Nat.mul len es = len * es := rfl
                      rw [e1] at hq
                      omega
                    · cases hold
                  have hold' : old = (cs.drop off).take (len * es) := by
                    rw [takeN_eq, dropN_eq] at hold
                    split at hold
                    · exact some_inj hold
                    · cases hold
                  have h8 : 0 < len * es → o' = base + off := fun hp => g8 (.inl (by
                    rcases Nat.eq_zero_or_pos len with e | e
                    · subst e; simp at hp
                    · exact e))
                  have hstep := Step.grow hr hg g1 hfree hold' hk h8 v2 v3 (hroom hc)
                  have hst := run_room (P := P) ho (o' + len * es) v3 (hroom hc)
                  refine ⟨_, _, .slice (some ⟨b, o', none⟩) (len + n) cap', ?_, ?_, hstep⟩
                  · rw [run_append_room (P := P) h0 h1 hu hx hz x1 hc (v1 w rfl)]
                    show ((storeCells _ _).run P w).andThen _ = _
                    rw [show (⟨b, o', none⟩ : Addr).add (len * es) = ⟨b, o' + len * es, none⟩ from Addr.add_lit _ _ _, hst]
                    rfl
                  · exact .inr ⟨b, o', sz, o', cap', Rho.add_same _ _ _, rfl, (fun h => by cases h), Nat.le_refl _, hc, Nat.le_refl _, g7, fun _ => rfl⟩
                · obtain ⟨ρ', w', val, p1, p2, p3⟩ := newrow old hfree (by omega) hold
                  exact ⟨ρ', w', val, p1, p2, p3.dead β _ (hβ old)⟩
              · cases h
        · cases h
    · cases h
end Go.Ab

namespace Go.Ab
open Go
variable {P : Program} [LoopTab]

theorem VR.slc1 {ρ : Rho} {β off len cap es : Nat} {ex : Bool} {v : Value} (h : VR ρ (.slice β off len cap ex es) v) (h0 : ¬ len = 0) :
    ∃ b base sz o' cap', ρ β = some (b, base, sz) ∧ v = .slice (some ⟨b, o', none⟩) len cap' ∧ (ex = true → cap' = cap) ∧ len ≤ cap ∧ cap ≤ cap' ∧ base ≤ o' ∧ o' + cap' * es ≤ sz ∧ (0 < len ∨ (ex = true ∧ 0 < cap) → o' = base + off) := by
  rcases h with ⟨_, e, _⟩ | h
  · exact absurd e h0
  · exact h

theorem blk_old (w : World) (o : Obj) {b : Nat} (h : b < w.heap.size) : (w.alloc o).heap[b]? = w.heap[b]? := by
  have hne : b ≠ w.heap.size := Nat.ne_of_lt h
  show (w.heap.push o)[b]? = _
  simp [Array.getElem?_push, hne]
theorem blk_new (w : World) (o : Obj) : (w.alloc o).heap[w.heap.size]? = some o := by
  show (w.heap.push o)[w.heap.size]? = _
  simp
theorem blk_size (w : World) (o : Obj) : (w.alloc o).heap.size = w.heap.size + 1 := by
  show (w.heap.push o).size = _
  simp

theorem Step.cast {A A₁ A₂ : AH} {ρ ρ' : Rho} {w w' : World} (h : Step A ρ w A₁ ρ' w') (hg : ∀ β, A₂.get β = A₁.get β) (hn : A₂.next = A₁.next) : Step A ρ w A₂ ρ' w' :=
  ⟨h.le, fun β hβ => h.win β (by rw [← hn]; exact hβ), by rw [hn]; exact h.next,
    ⟨fun β x hx => h.hr.obj β x (by rw [← hg]; exact hx), fun β β' x x' l l' h1 h2 => h.hr.inj β β' x x' l l' (by rw [← hg]; exact h1) (by rw [← hg]; exact h2), fun β x hx => by rw [hn]; exact h.hr.top β x (by rw [← hg]; exact hx)⟩,
    h.size, h.same, fun k β x l h1 => h.img k β x l (by rw [← hg]; exact h1), h.os, h.output, h.tape⟩

theorem or_block {ρ : Rho} {w : World} {b base sz lo hi : Nat} {c : Array Value} {elem : TypeId} {cs : List AV} (h : w.heap[b]? = some (.cells c elem (lo, hi))) (hs : sz ≤ c.size) (hm : lo = hi ∨ c.size ≤ lo) (hb : base + cs.length ≤ sz)
    (hc : ∀ (i : Nat) (a : AV), cs[i]? = some a → ∃ v, c[base + i]? = some v ∧ VR ρ a v ∧ v.oneCell' = true) : OR ρ w b base sz (.cells cs) := by
  have hcell : ∀ j, w.cell? ⟨b, j, none⟩ = c[j]? := fun j => by simp [World.cell?, h]
  refine ⟨hb, (Array.getElem?_eq_some_iff.1 h).1, fun j hj => ⟨?_, ?_⟩, fun i a ha => ?_, c, elem, lo, hi, h, hs, hm⟩
  · rw [hcell, Array.getElem?_eq_getElem (by omega)]; rfl
  · simp only [World.frozen?, h]
    rcases hm with hm | hm
    · by_cases hl : lo ≤ j
      · have : ¬ (j < hi) := by omega
        simp [this]
      · simp [hl]
    · have : ¬ (lo ≤ j) := by omega
      simp [this]
  · obtain ⟨v, h1, h2⟩ := hc i a ha
    exact ⟨v, by rw [hcell]; exact h1, h2⟩

theorem copyA_sound {A A' : AH} {ρ : Rho} {w : World} (hr : HR A ρ w) {tys : Array TypeId} {sT : TypeId} {ty : TypeId} {es : Nat} (h0 : tys[0]? = some sT) 
    (he : elemCells P sT = some es) {s x r : AV} {sv xv : Value} (hs : VR ρ s sv) (hxv : VR ρ x xv) (h : copyA A es s x = some (r, A')) :
    ∃ w' val, (Builtin.copy_ tys ty #[sv, xv]).run P w = .ok val w' ∧ VR ρ r val ∧ Step A ρ w A' ρ w' := by
  obtain ⟨el, i, z, zv, hu, hi, hb, hz, hpos, hzv, z2, z3, z4⟩ := elemCells_some ρ he
  unfold copyA at h
  split at h
  · rename_i n new β off len cap ex es' hsrc
    obtain ⟨x1, x2, x3⟩ := srcCells_sound (P := P) hr hxv hsrc
    split at h
    · cases some_inj h
      obtain ⟨a, c, rfl⟩ := VR.slc hs
      obtain ⟨vs, v1, v2, v3⟩ := x3 0 (Nat.zero_le _)
      have hvs : vs = [] := by
        have := VRs.length v2
        cases vs with
        | nil => rfl
        | cons => simp at this
      subst hvs
      have hmn : Nat.min n 0 = 0 := Nat.min_zero n
      have hst : (storeCells a []).run P w = .ok () w := rfl
      refine ⟨w, .int .i64 0, ?_, rfl, Step.refl hr⟩
      simp [Builtin.copy_, h0, run_underlying hu, x1, hz, hmn, v1 w rfl, hst]
      rfl
    rename_i hl0
    obtain ⟨b, base, sz, o', cap', g1, rfl, g3, g4, g5, g6, g7, g8⟩ := VR.slc1 hs hl0
    split at h
    · rename_i cs hg hes
      rw [nbeq] at hes; simp only [decide_eq_true_eq] at hes
      subst hes
      simp only at h
      split at h
      · rename_i l hl
        rw [takeN_eq] at hl
        split at hl
        · rename_i hlen
          have hl := some_inj hl
          have em : Nat.mul (min n len) es = min n len * es := rfl
          rw [em] at hl hlen
          split at h
          · rename_i cs' hov
            cases some_inj h
            have hov' := hov
            obtain ⟨vs, v1, v2, v3⟩ := x3 (min n len) (Nat.min_le_left _ _)
            rw [← hl] at v2
            have hlv := VRs.length v2
            have hll : l.length = min n len * es := by rw [hl]; simp; omega
            have ho := hr.cells hg g1
            have hstep := Step.set hr hg g1 hov v2 v3
            refine ⟨_, .int .i64 (.ofNat (min n len)), ?_, rfl, hstep⟩
            have hmn : Nat.min n len = min n len := rfl
            have hst : (storeCells ⟨b, o', none⟩ vs).run P w = .ok () (w.setCells b (base + off) vs) := by
              by_cases hm : min n len = 0
              · have : vs = [] := by
                  rw [hm] at hll; simp at hll; rw [hll] at hlv
                  cases vs with
                  | nil => rfl
                  | cons => simp at hlv
                subst this
                rfl
              · have hoff := g8 (.inl (by omega))
                subst hoff
                refine run_room ho (base + off) v3 ?_
                have := Nat.mul_le_mul_right es (show min n len ≤ cap' by omega)
                omega
            simp [Builtin.copy_, h0, run_underlying hu, x1, hz, hmn, v1 w rfl, hst]
            rfl
          · cases h
        · cases hl
      · cases h
    · cases h
  · rename_i hsrc
    obtain ⟨x1, x2, x3⟩ := srcCells_sound (P := P) hr hxv hsrc
    obtain rfl := hs
    cases some_inj h
    obtain ⟨vs, v1, v2, v3⟩ := x3 0 (Nat.zero_le _)
    refine ⟨w, .int .i64 0, ?_, rfl, Step.refl hr⟩
    simp [Builtin.copy_, h0, run_underlying hu, x1, hz, v1 w rfl]
    rfl
  · cases h

theorem rangeA_sound {A A' : AH} {ρ : Rho} {w : World} (hr : HR A ρ w) (hfree : A.next < A'.next → ρ A.next = none) {T : TypeId} {x r : AV} {v : Value} (hx : VR ρ x v) (h : rangeA P A T x = some (r, A')) :
    ∃ ρ' w' val, (Instr.range T v).run P w = .ok val w' ∧ VR ρ' r val ∧ Step A ρ w A' ρ' w' := by
  unfold rangeA at h
  split at h
  · rename_i kt el hu
    split at h
    · obtain rfl := hx
      cases some_inj h
      have hfree := hfree (Nat.lt_succ_self _)
      have hle := Rho.le_add (l := (w.heap.size, 0, 0)) hfree
      refine ⟨_, w.alloc (.mapIter none 0 #[] 0), .pointer (some ⟨w.heap.size, 0, none⟩), ?_, ⟨w.heap.size, 0, 0, Rho.add_same _ _ _, rfl⟩, Step.push hr (.iter none 0 [] 0) 0 0 hfree ?_ (blk_size _ _) (fun b' hb' => blk_old _ _ hb') ⟨rfl, rfl, rfl⟩⟩
      · simp [Instr.range, run_underlying hu]
      · exact ⟨rfl, none, blk_new _ _, rfl⟩
    · rename_i m
      split at h
      · rename_i es clock hg
        cases some_inj h
        have hfree := hfree (Nat.lt_succ_self _)
        obtain ⟨b, base, sz, g1, rfl⟩ := hx
        obtain ⟨ms, q1, q2⟩ := hr.map hg g1
        have hgo : (getObj b).run P w = .ok (.map ms clock) w := by simp [getObj, Sem.run, q1]
        refine ⟨_, w.alloc (.mapIter (some b) clock #[] clock), .pointer (some ⟨w.heap.size, 0, none⟩), ?_, ⟨w.heap.size, 0, 0, Rho.add_same _ _ _, rfl⟩, Step.push hr (.iter (some m) clock [] clock) 0 0 hfree ?_ (blk_size _ _) (fun b' hb' => blk_old _ _ hb') ⟨rfl, rfl, rfl⟩⟩
        · simp [Instr.range, run_underlying hu, hgo]
        · exact ⟨rfl, some b, blk_new _ _, b, base, sz, Rho.le_add hfree _ _ g1, rfl⟩
      · cases h
    · cases h
  · cases h

theorem sameConv_sound {A : AH} {ρ : Rho} {w : World} (hr : HR A ρ w) {S D : TypeId} {x r : AV} {v : Value} (hx : VR ρ x v) (h : sameConv P S D A x = some r) :
    ∃ w' val, (convert S D v).run P w = .ok val w' ∧ VR ρ r val ∧ Step A ρ w A ρ w' := by
  unfold sameConv at h
  split at h
  · rename_i el β off len cap ex es hsd hu
    rw [nbeq] at hsd; simp only [decide_eq_true_eq] at hsd
    subst hsd
    split at h
    · rename_i cs hl0 he hg
      rw [nbeq] at hl0; simp only [decide_eq_false_iff_not] at hl0
      cases some_inj h
      have hx' := hx
      obtain ⟨b, base, sz, o', cap', g1, rfl, g3, g4, g5, g6, g7, g8⟩ := VR.slc1 hx hl0
      obtain ⟨k1, k2, k3, k4, c, elem, lo, hi, k5, k6, k7⟩ := hr.cells hg g1
      have hsh : w.shape? b = some (elem, c.size) := by simp [World.shape?, k5]
      refine ⟨w.freeze ⟨b, c.size, none⟩ 1, _, ?_, hx', ?_⟩
      · simp [convert, run_underlying hu, run_underlying he, markStringish, hsh]
      · have hb := (Array.getElem?_eq_some_iff.1 k5).1
        have hcell : ∀ j, w.cell? ⟨b, j, none⟩ = c[j]? := fun j => by simp [World.cell?, k5]
        have hself : Step A ρ w (A.put β (.cells cs)) ρ (w.freeze ⟨b, c.size, none⟩ 1) := by
          refine Step.put hr β (.cells cs) (.cells cs) b base sz hg rfl g1 ?_ (by simp [World.freeze]) (fun b' hb' hne => ?_) ⟨rfl, rfl, rfl⟩
          · have hfr : (w.freeze ⟨b, c.size, none⟩ 1).heap[b]? = some (.cells c elem ((if lo == hi then (c.size, c.size + 1) else (min lo c.size, max hi (c.size + 1))).1, (if lo == hi then (c.size, c.size + 1) else (min lo c.size, max hi (c.size + 1))).2)) := by
              have k5' := (Array.getElem?_eq_some_iff.1 k5).2
              simp [World.freeze, hb, Array.getElem_modify, k5']
            refine or_block hfr k6 (.inr ?_) k1 fun i a ha => ?_
            · by_cases hlh : lo = hi
              · simp [hlh]
              · have : c.size ≤ lo := by omega
                simp [hlh]; omega
            · obtain ⟨v, q1, q2⟩ := k4 i a ha
              exact ⟨v, by rw [← hcell]; exact q1, q2⟩
          · simp [World.freeze, Array.getElem?_modify, hne.symm]
        refine hself.cast (fun β' => ?_) rfl
        rw [AH.get_put]
        split
        · rename_i e; subst e; exact hg
        · rfl
    · cases h
  · cases h

theorem bytesA_sound {A A' : AH} {ρ : Rho} {w : World} (hr : HR A ρ w) (hfree : A.next < A'.next → ρ A.next = none) {S D : TypeId} {x r : AV} {v : Value} (hx : VR ρ x v) (h : bytesA P A S D x = some (r, A')) :
    ∃ ρ' w' val, (convert S D v).run P w = .ok val w' ∧ VR ρ' r val ∧ Step A ρ w A' ρ' w' := by
  unfold bytesA at h
  split at h
  · rename_i el hs hd
    split at h
    · rename_i s
      split at h
      · rename_i he hz
        cases some_inj h
        have hfree := hfree (Nat.lt_succ_self _)
        rw [VR_str] at hx
        obtain ⟨hb, rfl⟩ := hx
        have hrun := run_bytes_of_string (P := P) w S D el (toB s) hs hd he
        have hcap : s.length ≤ grownCap w s.length 0 el := by simp [grownCap, Question.cut]
        generalize hc : grownCap w (toB s).size 0 el = c at hrun
        rw [toB_size] at hrun hc
        rw [hc] at hcap
        have hrow : (bytesRow (toB s) c).toList = (s.map fun b => Value.int .u8 (.ofNat b)) ++ List.replicate (c - s.length) (.int .u8 0) := by
          simp only [bytesRow, Array.toList_append, Array.toList_replicate, toB_size]
          congr 1
          simp only [Array.toList_map, toB, List.map_map]
          apply List.map_congr_left
          intro b hb'
          have : b < 256 := hb b hb'
          simp [UInt8.toNat_ofNat', Nat.mod_eq_of_lt this]
        have hsz : (bytesRow (toB s) c).size = c := by
          rw [← Array.length_toList, hrow]; simp; omega
        have s1 : Step A ρ w A ρ w.drew := Step.heap hr rfl ⟨rfl, rfl, rfl⟩
        refine ⟨_, _, _, hrun, .inr ⟨w.heap.size, 0, c, 0, c, Rho.add_same _ _ _, rfl, (fun h => by cases h), Nat.le_refl _, hcap, Nat.le_refl _, by omega, fun _ => rfl⟩,
          s1.trans (Step.push s1.hr (.cells (s.map fun b => .int .u8 (.ofNat b))) 0 c hfree ?_ (blk_size _ _) (fun b' hb' => blk_old _ _ hb') ⟨rfl, rfl, rfl⟩)⟩
        refine or_block (blk_new _ _) (Nat.le_of_eq hsz.symm) (.inr (Nat.le_refl _)) (by simp; exact hcap) fun i a ha => ?_
        rw [List.getElem?_map] at ha
        cases hi : s[i]? with
        | none => rw [hi] at ha; cases ha
        | some q =>
          rw [hi] at ha
          cases some_inj ha
          refine ⟨.int .u8 (.ofNat q), ?_, rfl, rfl⟩
          rw [Nat.zero_add, ← Array.getElem?_toList, hrow, List.getElem?_append_left (by simpa using (List.getElem?_eq_some_iff.1 hi).1), List.getElem?_map, hi]
          rfl
      · cases h
    · cases h
  · cases h

theorem clearA_sound {A A' : AH} {ρ : Rho} {w : World} (hr : HR A ρ w) {tys : Array TypeId} {sT : TypeId} {ty : TypeId} (h0 : tys[0]? = some sT) {x : AV} {v : Value} (hx : VR ρ x v) (h : clearA P A sT x = some A') :
    ∃ w', (Builtin.clear_ tys ty #[v]).run P w = .ok (.tuple #[]) w' ∧ Step A ρ w A' ρ w' := by
  unfold clearA at h
  split at h
  · rename_i β off n cap ex es
    split at h
    · rename_i el hu
      split at h
      · rename_i z k cs hz hk hg
        split at h
        · cases some_inj h
          obtain ⟨a, c, rfl⟩ := VR.slc hx
          refine ⟨w, ?_, Step.refl hr⟩
          simp [Builtin.clear_, h0, run_underlying hu]
        · rename_i n _ _ _ hzl hek hn
          rw [nbeq] at hzl hek; simp only [decide_eq_true_eq] at hzl hek
          obtain ⟨b, base, sz, o', cap', g1, rfl, g3, g4, g5, g6, g7, g8⟩ := VR.slc1 hx hn
          split at h
          · rename_i cs' hov
            cases some_inj h
            obtain ⟨zv, z1, z2, z3⟩ := zeroCells_some ρ hz
            obtain ⟨n1, n2, _⟩ := sizeT_some hk
            have hzv := VRs.length z2
            simp only [Array.length_toList] at hzv
            have hn0 : 0 < n := Nat.pos_of_ne_zero fun e => hn e
            have hoff := g8 (.inl hn0)
            subst hoff
            have hzl' : 0 < zv.cells.toList.length := by simp; omega
            have hcells : (Builtin.zeroCells zv.cells n).toList = (List.replicate n zv.cells.toList).flatten := by
              have := range_cells zv.cells.toList hzl' n
              simpa [Builtin.zeroCells] using this
            have hvr := replicate_VRs z2 n
            have hone : ∀ v ∈ (List.replicate n zv.cells.toList).flatten, v.oneCell' = true := fun v hv => z3 v (by simpa using mem_flatten_replicate hv)
            have hfit : base + off + ((List.replicate n zv.cells.toList).flatten).length ≤ sz := by
              have := Nat.mul_le_mul_right es (show n ≤ cap' by omega)
              have e : ((List.replicate n zv.cells.toList).flatten).length = n * zv.cells.size := by simp
              rw [e, ← hzv, hzl, ← hek]; omega
            refine ⟨_, ?_, Step.set hr hg g1 hov hvr hone⟩
            have hst := run_room (P := P) (hr.cells hg g1) (base + off) hone hfit
            rw [← hcells] at hst ⊢
            cases n with
            | zero => omega
            | succ n => simp [Builtin.clear_, h0, run_underlying hu, z1, hst]
          · cases h
        · cases h
      · cases h
    · cases h
  · cases h

end Go.Ab

namespace Go.Ab
open Go
variable {P : Program} [LoopTab]

theorem Ents.filter {ρ : Rho} {p : (AV × AV × Nat) → Bool} {q : MapEntry → Bool} : ∀ {es : List (AV × AV × Nat)} {ms : List MapEntry}, Ents ρ es ms → (∀ e m, m.born = e.2.2 → p e = q m) → Ents ρ (es.filter p) (ms.filter q)
  | [], [], _, _ => trivial
  | (k, v, n) :: es, m :: ms, ⟨h1, h2, h3, h4⟩, hpq => by
    rw [List.filter_cons, List.filter_cons, hpq (k, v, n) m h3]
    split
    · exact ⟨h1, h2, h3, Ents.filter h4 hpq⟩
    · exact Ents.filter h4 hpq
  | [], _ :: _, h, _ => h.elim
  | _ :: _, [], h, _ => h.elim
theorem Ents.all {ρ : Rho} {p : (AV × AV × Nat) → Bool} {q : MapEntry → Bool} : ∀ {es : List (AV × AV × Nat)} {ms : List MapEntry}, Ents ρ es ms → (∀ e m, m.born = e.2.2 → p e = q m) → es.all p = ms.all q
  | [], [], _, _ => rfl
  | (k, v, n) :: es, m :: ms, ⟨h1, h2, h3, h4⟩, hpq => by
    rw [List.all_cons, List.all_cons, hpq (k, v, n) m h3, Ents.all h4 hpq]
  | [], _ :: _, h, _ => h.elim
  | _ :: _, [], h, _ => h.elim
theorem Ents.isEmpty {ρ : Rho} : ∀ {es : List (AV × AV × Nat)} {ms : List MapEntry}, Ents ρ es ms → es.isEmpty = ms.isEmpty
  | [], [], _ => rfl
  | _ :: _, _ :: _, _ => rfl
  | [], _ :: _, h => h.elim
  | _ :: _, [], h => h.elim

theorem any_contains (seen : List Nat) (n : Nat) : (seen.any fun b => Nat.beq b n) = seen.contains n := by
  induction seen with
  | nil => rfl
  | cons a l ih =>
    rw [List.any_cons, ih, List.contains_cons, nbeq]
    congr 1
    rw [Bool.eq_iff_iff]; simp; exact eq_comm

theorem nextA_sound {A A' : AH} {ρ : Rho} {w : World} (hr : HR A ρ w) {it r : AV} {v : Value} (hi : VR ρ it v) (ty : TypeId) (h : nextA A it = some (r, A')) :
    ∃ w' val, (Instr.next v false ty).run P w = .ok val w' ∧ VR ρ r val ∧ Step A ρ w A' ρ w' := by
  unfold nextA at h
  split at h
  · rename_i q
    obtain ⟨b, base, sz, g1, rfl⟩ := hi
    split at h
    · rename_i since seen last hg
      cases some_inj h
      obtain ⟨h0, m', q1, rfl⟩ := hr.iter hg g1
      subst h0
      have e1 : (getObj b).run P w = .ok (.mapIter none since seen.toArray last) w := by simp [getObj, Sem.run, q1]
      refine ⟨w, .tuple #[.bool false], ?_, ⟨_, rfl, rfl, trivial⟩, Step.refl hr⟩
      simp [Instr.next, e1]
    · rename_i m since seen last hg
      obtain ⟨h0, m', q1, b', x', y', q2, rfl⟩ := hr.iter hg g1
      subst h0
      have e1 : (getObj b).run P w = .ok (.mapIter (some b') since seen.toArray last) w := by simp [getObj, Sem.run, q1]
      split at h
      · rename_i es clock hgm
        obtain ⟨ms, q3, q4⟩ := hr.map hgm q2
        have e2 : (getObj b').run P w = .ok (.map ms clock) w := by simp [getObj, Sem.run, q3]
        simp only at h
        have hall : (es.all fun x => Nat.ble last x.2.2) = ms.all fun e => decide (e.born ≥ last) := by
          rw [Ents.all (q := fun e => decide (e.born ≥ last)) q4 fun e m hm => by rw [nble, hm]]
          rw [Array.all_toList]
        have hemp : es.isEmpty = ms.isEmpty := by rw [Ents.isEmpty q4]; simp [Array.isEmpty]
        have hbad : (!seen.toArray.isEmpty && !ms.isEmpty && ms.all fun e => decide (e.born ≥ last)) = (!seen.isEmpty && !es.isEmpty && es.all fun x => Nat.ble last x.2.2) := by
          rw [hall, hemp]; simp
        have hleft := Ents.filter (p := fun x => !(seen.any fun b => Nat.beq b x.2.2)) (q := fun e => !seen.toArray.contains e.born) q4 fun e m hm => by rw [any_contains, hm]; simp
        have hlf : (ms.filter fun e => !seen.toArray.contains e.born).toList = ms.toList.filter fun e => !seen.toArray.contains e.born := by simp
        rw [← hlf] at hleft
        generalize hL : ms.filter (fun e => !seen.toArray.contains e.born) = left at hleft
        split at h
        · rename_i hc hl
          cases some_inj h
          rw [hl] at hleft
          have hnil : left = #[] := by
            apply Array.ext'
            cases hq : left.toList with
            | nil => rfl
            | cons a l => rw [hq] at hleft; exact hleft.elim
          subst hnil
          refine ⟨w, .tuple #[.bool false], ?_, ⟨_, rfl, rfl, trivial⟩, Step.refl hr⟩
          rw [hc] at hbad
          simp only [Instr.next, Sem.run_bind, e1, Result.andThen_ok, e2, hbad, hL, Bool.false_eq_true, if_false, Sem.run_pure]
          simp [Question.forced, Question.cut]
        · rename_i x hc hl
          split at h
          · rename_i hlt
            cases some_inj h
            rw [hl] at hleft
            obtain ⟨me, hme⟩ : ∃ me, left = #[me] := by
              cases hq : left.toList with
              | nil => rw [hq] at hleft; exact hleft.elim
              | cons a l =>
                rw [hq] at hleft
                cases l with
                | nil => exact ⟨a, by apply Array.ext'; rw [hq]⟩
                | cons c l => exact hleft.2.2.2.elim
            subst hme
            rw [nblt] at hlt; simp only [decide_eq_true_eq] at hlt
            obtain ⟨f1, f2, f3, _⟩ := hleft
            have hso : ∀ o, (setObj b o).run P w = .ok () { w with heap := w.heap.setIfInBounds b o } := fun o => by simp [setObj, Sem.run, q1]
            have hb := (Array.getElem?_eq_some_iff.1 q1).1
            rw [hc] at hbad
            refine ⟨_, .tuple #[.bool true, me.key, me.val], ?_, ⟨_, rfl, rfl, f1, f2, trivial⟩, Step.obj hr hg rfl g1 q1 (o' := .mapIter (some b') since (seen.toArray.push me.born) clock) ⟨rfl, some b', ?_, b', x', y', q2, rfl⟩⟩
            · rw [← f3] at hlt
              simp only [Instr.next, Sem.run_bind, e1, Result.andThen_ok, e2, hbad, hL, Bool.false_eq_true, if_false, Sem.run_pure]
              simp [Question.forced, Question.cut, hlt, hso]
            · simp [hb, f3]
          · cases h
        · cases h
      · cases h
    · cases h
  · cases h

end Go.Ab

namespace Go.Ab
open Go
variable {P : Program} [LoopTab]

/-- What an operation hands its slot. -/
def Hands (n : Next) (val : Value) : Prop := n = .value val ∨ (n = .skip ∧ val = undef)

def Out (P : Program) (A : AH) (ρ : Rho) (w : World) (ev : Operand → Value) (o : Oper) (r : AV) (A' : AH) : Prop :=
  ∃ ρ' w' n val, (execOp ev o).run P w = .ok n w' ∧ Hands n val ∧ VR ρ' r val ∧ Step A ρ w A' ρ' w'

theorem VH.of_done {o : Option (AV × AH)} {r : AV} {A' : AH} (h : VH.of o = .done r A') : o = some (r, A') := by
  cases o with
  | none => cases h
  | some p => obtain ⟨a, b⟩ := p; injection h with h1 h2; subst h1; subst h2; rfl
theorem VH.ofH_done {o : Option AH} {r : AV} {A' : AH} (h : VH.ofH o = .done r A') : r = .any ∧ o = some A' := by
  cases o with
  | none => cases h
  | some p => injection h with h1 h2; subst h1; subst h2; exact ⟨rfl, rfl⟩
theorem VH.ofV_done {A : AH} {o : Option AV} {r : AV} {A' : AH} (h : VH.ofV A o = .done r A') : A' = A ∧ o = some r := by
  cases o with
  | none => cases h
  | some p => injection h with h1 h2; subst h1; subst h2; exact ⟨rfl, rfl⟩
theorem newA_done {A : AH} {o : Option (NV × AObj)} {r : AV} {A' : AH} (h : newA A o = .done r A') : ∃ nv x, o = some (nv, x) ∧ r = nv.at A.next ∧ A' = A.push x := by
  cases o with
  | none => cases h
  | some p => obtain ⟨a, b⟩ := p; injection h with h1 h2; subst h1; subst h2; exact ⟨a, b, rfl, rfl, rfl⟩

theorem run_skip (s : Sem Unit) (w w' : World) (h : s.run P w = .ok () w') : ((do s; pure Next.skip) : Sem Next).run P w = .ok .skip w' := by
  simp [h]

section
variable {A : AH} {ρ : Rho} {w : World} {e : En} {ev : Operand → Value} {o : Oper} {r : AV} {A' : AH}

theorem Out.light (hr : HR A ρ w) (H : ∀ x ∈ o.op.operands, VR ρ (opnd x e) (ev x)) (h : VH.ofV A (light o.op P e) = .done r A') : Out P A ρ w ev o r A' := by
  obtain ⟨rfl, hq⟩ := VH.ofV_done h
  obtain ⟨val, h1, h2⟩ := light_sound H hq w
  exact ⟨ρ, w, _, val, h1, .inl rfl, h2, Step.refl hr⟩
theorem Out.reads (hr : HR A ρ w) (H : ∀ x ∈ o.op.operands, VR ρ (opnd x e) (ev x)) (h : VH.ofV A (reads o.op P e A) = .done r A') : Out P A ρ w ev o r A' := by
  obtain ⟨rfl, hq⟩ := VH.ofV_done h
  obtain ⟨val, h1, h2⟩ := reads_sound hr H hq
  exact ⟨ρ, w, _, val, h1, .inl rfl, h2, Step.refl hr⟩
theorem Out.alloc (hr : HR A ρ w) (hfree : A.next < A'.next → ρ A.next = none) (H : ∀ x ∈ o.op.operands, VR ρ (opnd x e) (ev x)) (h : newA A (allocL o.op P e) = .done r A') : Out P A ρ w ev o r A' := by
  obtain ⟨nv, x, hq, rfl, rfl⟩ := newA_done h
  have hfree := hfree (Nat.lt_succ_self _)
  obtain ⟨val, obj, sz, h1, h2, h3⟩ := allocL_sound H hq w
  obtain ⟨h4, h5⟩ := h3 A.next (ρ.add A.next (w.heap.size, 0, sz)) (Rho.le_add hfree) (Rho.add_same _ _ _)
  exact ⟨_, _, _, val, h1, .inl rfl, h5, Step.push hr x 0 sz hfree h4 (blk_size _ _) (fun b' hb' => blk_old _ _ hb') ⟨rfl, rfl, rfl⟩⟩
end

theorem opA_sound {A : AH} {ρ : Rho} {w : World} (hr : HR A ρ w)  {s : Self} {o : Oper} {e : En} {ev : Operand → Value} (H : ∀ x ∈ o.op.operands, VR ρ (opnd x e) (ev x))
    (hnc : ∀ c f, o.op = .call c → c.callee ≠ .value f) {r : AV} {A' : AH} (hfree : A.next < A'.next → ρ A.next = none) (h : opA o.op P s e A = .done r A') : Out P A ρ w ev o r A' := by
  have H' := H
  obtain ⟨dst, op, type, pos, after, guard⟩ := o
  cases op
  case move x => injection h with h1 h2; subst h1; subst h2; exact ⟨ρ, w, _, _, rfl, .inl rfl, H x (by simp [Op.operands]), Step.refl hr⟩
  case assign x => injection h with h1 h2; subst h1; subst h2; exact ⟨ρ, w, _, _, rfl, .inl rfl, H x (by simp [Op.operands]), Step.refl hr⟩
  case alloc T => exact Out.alloc hr hfree H' h
  case box T x => exact Out.alloc hr hfree H' h
  case buildSlice T n ps => exact Out.alloc hr hfree H' h
  case makeSlice T l c => exact Out.alloc hr hfree H' h
  case makeMap T c => exact Out.alloc hr hfree H' h
  case load T a => exact Out.reads hr H' h
  case lookup M m k ok => exact Out.reads hr H' h
  case entry it => exact Out.reads hr H' h
  case range T x =>
    obtain ⟨ρ', w', val, h1, h2, h3⟩ := rangeA_sound (P := P) hr hfree (H x (by simp [Op.operands])) (VH.of_done h)
    exact ⟨ρ', w', _, val, by simp only [execOp]; exact run_value _ _ _ _ h1, .inl rfl, h2, h3⟩
  case store T a v =>
    obtain ⟨rfl, hq⟩ := VH.ofH_done h
    obtain ⟨w', h1, h2⟩ := storeA_sound (P := P) hr (H a (by simp [Op.operands])) (H v (by simp [Op.operands])) hq
    exact ⟨ρ, w', _, undef, by simp only [execOp]; exact run_skip _ _ _ h1, .inr ⟨rfl, rfl⟩, trivial, h2⟩
  case mapUpdate M m k v =>
    obtain ⟨rfl, hq⟩ := VH.ofH_done h
    obtain ⟨w', h1, h2⟩ := mapSet_sound (P := P) hr (H m (by simp [Op.operands])) (H k (by simp [Op.operands])) (H v (by simp [Op.operands])) hq
    exact ⟨ρ, w', _, undef, by simp only [execOp]; exact run_skip _ _ _ h1, .inr ⟨rfl, rfl⟩, trivial, h2⟩
  case insert M m k v =>
    obtain ⟨rfl, hq⟩ := VH.ofH_done h
    obtain ⟨w', h1, h2⟩ := mapSet_sound (P := P) hr (H m (by simp [Op.operands])) (H k (by simp [Op.operands])) (H v (by simp [Op.operands])) hq
    exact ⟨ρ, w', _, undef, by simp only [execOp]; exact run_skip _ _ _ h1, .inr ⟨rfl, rfl⟩, trivial, h2⟩
  case next it isStr =>
    simp only [opA] at h
    split at h
    · cases h
    · obtain ⟨w', val, h1, h2, h3⟩ := nextA_sound (P := P) hr (H it (by simp [Op.operands])) type (VH.of_done h)
      exact ⟨ρ, w', _, val, by simp only [execOp]; exact run_value _ _ _ _ h1, .inl rfl, h2, h3⟩
  case convert S D x =>
    simp only [opA] at h
    split at h
    · rename_i v hv
      injection h with h1 h2; subst h1; subst h2
      exact Out.light (o := ⟨dst, .convert S D x, type, pos, after, guard⟩) hr H' (by rw [hv]; rfl)
    · split at h
      · rename_i v hv
        injection h with h1 h2; subst h1; subst h2
        obtain ⟨w', val, h1, h2, h3⟩ := sameConv_sound (P := P) hr (H x (by simp [Op.operands])) hv
        exact ⟨ρ, w', _, val, by simp only [execOp]; exact run_value _ _ _ _ h1, .inl rfl, h2, h3⟩
      · obtain ⟨ρ', w', val, h1, h2, h3⟩ := bytesA_sound (P := P) hr hfree (H x (by simp [Op.operands])) (VH.of_done h)
        exact ⟨ρ', w', _, val, by simp only [execOp]; exact run_value _ _ _ _ h1, .inl rfl, h2, h3⟩
  case call c =>
    obtain ⟨callee, args, tys⟩ := c
    cases callee
    case value f => exact absurd rfl (hnc _ f rfl)
    case builtin b =>
      have Ha : ∀ x ∈ args.toList, VR ρ (opnd x e) (ev x) := fun x hx => H x (by simp [Op.operands, Call.operands]; simpa using hx)
      have hargs2 : ∀ x y, args.toList = [x, y] → args.map ev = #[ev x, ev y] := fun x y ha => by
        apply Array.ext'; simp [ha]
      cases b
      case append =>
        simp only [opA] at h
        split at h
        · rename_i x y es ha he hx
          simp only [Option.bind_eq_some_iff] at he
          obtain ⟨sT, h0, he⟩ := he
          simp only [Option.map_eq_some_iff] at hx
          obtain ⟨xT, h1, hx⟩ := hx
          have hx' : P.underlying xT = some .string ∨ ∃ e', P.underlying xT = some (.slice e') := by
            split at hx
            · rename_i e' hq; exact .inr ⟨e', hq⟩
            · rename_i hq; exact .inl hq
            · cases hx
          obtain ⟨ρ', w', val, q1, q2, q3⟩ := appendA_sound (P := P) (ty := type) hr hfree h0 h1 he hx' (Ha x (by simp [ha])) (Ha y (by simp [ha])) (VH.of_done h)
          refine ⟨ρ', w', .value val, val, ?_, .inl rfl, q2, q3⟩
          simp only [execOp, resolve, Sem.run_bind, Sem.run_pure, Result.andThen_ok, invoke, builtin, hargs2 x y ha, q1]
        · cases h
      case copy =>
        simp only [opA] at h
        split at h
        · rename_i x y es ha he
          simp only [Option.bind_eq_some_iff] at he
          obtain ⟨sT, h0, he⟩ := he
          obtain ⟨w', val, q1, q2, q3⟩ := copyA_sound (P := P) (ty := type) hr h0 he (Ha x (by simp [ha])) (Ha y (by simp [ha])) (VH.of_done h)
          refine ⟨ρ, w', .value val, val, ?_, .inl rfl, q2, q3⟩
          simp only [execOp, resolve, Sem.run_bind, Sem.run_pure, Result.andThen_ok, invoke, builtin, hargs2 x y ha, q1]
        · cases h
      case clear =>
        simp only [opA] at h
        split at h
        · rename_i x T ha h0
          split at h
          · rename_i A'' hq
            injection h with h1 h2; subst h1; subst h2
            obtain ⟨w', q1, q2⟩ := clearA_sound (P := P) (ty := type) hr h0 (Ha x (by simp [ha])) hq
            refine ⟨ρ, w', .value (.tuple #[]), _, ?_, .inl rfl, ⟨_, rfl, trivial⟩, q2⟩
            have hm : args.map ev = #[ev x] := by apply Array.ext'; simp [ha]
            simp only [execOp, resolve, Sem.run_bind, Sem.run_pure, Result.andThen_ok, invoke, builtin, hm, q1]
          · cases h
        · cases h
      all_goals
        simp only [opA] at h
        split at h
        · rename_i v hv
          injection h with h1 h2; subst h1; subst h2
          exact Out.light hr H' (by rw [hv]; rfl)
        · exact Out.reads hr H' h
    all_goals
      simp only [opA] at h
      split at h
      · rename_i v hv
        injection h with h1 h2; subst h1; subst h2
        exact Out.light hr H' (by rw [hv]; rfl)
      · exact Out.reads hr H' h
  all_goals exact Out.light hr H' h

end Go.Ab

namespace Go.Ab
open Go
variable {P : Program} [LoopTab]

/-- The slots of an activation, related. -/
def ER (ρ : Rho) (e : En) (a : Act) : Prop := ∀ t, VR ρ (e.get t) (a.eval (.tmp t))
theorem ER.mono {ρ ρ' : Rho} {e : En} {a : Act} (h : ρ.le ρ') (he : ER ρ e a) : ER ρ' e a := fun t => VR.mono h _ _ (he t)

/-- What a call comes to, said of the model. -/
def CallOK (P : Program) (f : FuncId) (args : List AV) (A : AH) (r : CR) : Prop :=
  ∀ v A', r = .done v A' → A.next ≤ A'.next ∧ (∃ fn c, P.funcs[f]? = some fn ∧ (fn.name == "runtime.NumGoroutine") = false ∧ fn.body = some c) ∧
    ∀ ρ w argv, HR A ρ w → VRs ρ args argv.toList → Win A.next A'.next ρ →
      Calls P f argv w fun e w' => ∃ val ρ', e = .returned val ∧ VR ρ' v val ∧ Step A ρ w A' ρ' w'

/-- A fence that bars nothing that a walk without one may do. -/
def Free (F : Fence) : Prop := F = Fence.wide ∨ ∃ l, F = Fence.wide.inRound l
theorem Free.wide : Free Fence.wide := .inl rfl
theorem Free.inRound (l : Nat) : Free (Fence.wide.inRound l) := .inr ⟨l, rfl⟩
theorem Free.fn {F : Fence} (h : Free F) (f : FuncId) : F.fn f := by rcases h with rfl | ⟨l, rfl⟩ <;> exact trivial
theorem Free.depth {F : Fence} (h : Free F) : F.depth = none := by rcases h with rfl | ⟨l, rfl⟩ <;> rfl
theorem Free.call {F : Fence} (hF : Free F) {n : Nat} {P : Program} {f : FuncId} {args : Array Value} {w : World} {R : Ending → World → Prop} (h : Calls P f args w R) : CallsIn F n P f args w R := by
  rcases hF with rfl | ⟨l, rfl⟩
  · exact callsIn_wide.2 h
  · exact CallsIn.inRound l (callsIn_wide.2 h)
theorem Free.round {F : Fence} (h : Free F) (l : Nat) : F.inRound l = Fence.wide.inRound l := by rcases h with rfl | ⟨l', rfl⟩ <;> rfl
theorem Free.none {F : Fence} (h : Free F) (hr : F.round = .none) : F = Fence.wide := by
  rcases h with rfl | ⟨l', rfl⟩
  · rfl
  · cases hr

/-- What a call of yield comes to. -/
def YieldOK (P : Program) (β : Nat) (args : List AV) (A : AH) (r : CR) : Prop :=
  ∀ v A', r = .done v A' → A.next ≤ A'.next ∧ ∀ F N, Free F → ∀ ρ w argv b x y, HR A ρ w → VRs ρ args argv.toList → Win A.next A'.next ρ → ρ β = some (b, x, y) →
    ∃ fn tmps as bd, (Instr.yield b argv).run P w = .ok (.round b fn tmps as bd) w ∧ RoundIn F N P b fn tmps as bd w fun e w' => ∃ val ρ', e = .returned val ∧ VR ρ' v val ∧ Step A ρ w A' ρ' w'

structure CallsOK (P : Program) (s : Self) : Prop where
  call : ∀ f args A, CallOK P f args A (s.call f args A)
  yield : ∀ β args A, YieldOK P β args A (s.yield β args A)

theorem opnd_sound {ρ : Rho} {e : En} {a : Act} {x : Operand} (h : ∀ t, x = .tmp t → VR ρ (e.get t) (a.eval (.tmp t))) : VR ρ (opnd x e) (a.eval x) := by
  cases x with
  | tmp t => exact h t rfl
  | const v => exact ofValue_VR ρ v
  | global g => trivial
  | func f => exact ⟨#[], #[], rfl, trivial, trivial⟩

theorem storeA_next {A A' : AH} {T : TypeId} {a v : AV} (h : storeA P A T a v = some A') : A'.next = A.next := by
  unfold storeA at h
  repeat' split at h
  all_goals first | (cases some_inj h; rfl) | cases h
theorem mapSet_next {A A' : AH} {T : TypeId} {m k v : AV} (h : mapSet P A T m k v = some A') : A'.next = A.next := by
  unfold mapSet at h
  repeat' split at h
  all_goals first | (cases some_inj h; rfl) | cases h
theorem clearA_next {A A' : AH} {T : TypeId} {x : AV} (h : clearA P A T x = some A') : A'.next = A.next := by
  unfold clearA at h
  repeat' split at h
  all_goals first | (cases some_inj h; rfl) | cases h
theorem rangeA_next {A A' : AH} {T : TypeId} {x r : AV} (h : rangeA P A T x = some (r, A')) : A.next ≤ A'.next := by
  unfold rangeA at h
  repeat' split at h
  all_goals first | (cases some_inj h; exact Nat.le_succ _) | cases h
theorem bytesA_next {A A' : AH} {S D : TypeId} {x r : AV} (h : bytesA P A S D x = some (r, A')) : A.next ≤ A'.next := by
  unfold bytesA at h
  repeat' split at h
  all_goals first | (cases some_inj h; exact Nat.le_succ _) | cases h
theorem copyA_next {A A' : AH} {es : Nat} {x y r : AV} (h : copyA A es x y = some (r, A')) : A.next ≤ A'.next := by
  unfold copyA at h
  simp only at h
  repeat' split at h
  all_goals first | (cases some_inj h; exact Nat.le_refl _) | cases h
theorem nextA_next {A A' : AH} {x r : AV} (h : nextA A x = some (r, A')) : A.next ≤ A'.next := by
  unfold nextA at h
  simp only at h
  repeat' split at h
  all_goals first | (cases some_inj h; exact Nat.le_refl _) | cases h
theorem appendA_next {A A' : AH} {es : Nat} {x y r : AV} (h : appendA A es x y = some (r, A')) : A.next ≤ A'.next := by
  unfold appendA at h
  repeat' split at h
  all_goals first | (cases some_inj h; first | exact Nat.le_refl _ | exact Nat.le_succ _) | cases h

theorem ofV_next {A : AH} {o : Option AV} {r : AV} {A' : AH} (h : VH.ofV A o = .done r A') : A.next ≤ A'.next := by
  obtain ⟨rfl, _⟩ := VH.ofV_done h; exact Nat.le_refl _
theorem newA_next {A : AH} {o : Option (NV × AObj)} {r : AV} {A' : AH} (h : newA A o = .done r A') : A.next ≤ A'.next := by
  obtain ⟨nv, x, _, _, rfl⟩ := newA_done h; exact Nat.le_succ _

theorem opA_next {s : Self} (hs : CallsOK P s) {op : Op} {e : En} {A A' : AH} {r : AV} (h : opA op P s e A = .done r A') : A.next ≤ A'.next := by
  cases op
  case move x => injection h with h1 h2; subst h2; exact Nat.le_refl _
  case assign x => injection h with h1 h2; subst h2; exact Nat.le_refl _
  case alloc T => exact newA_next h
  case box T x => exact newA_next h
  case buildSlice T n ps => exact newA_next h
  case makeSlice T l c => exact newA_next h
  case makeMap T c => exact newA_next h
  case range T x => exact rangeA_next (VH.of_done h)
  case store T a v => obtain ⟨_, hq⟩ := VH.ofH_done h; exact Nat.le_of_eq (storeA_next hq).symm
  case mapUpdate M m k v => obtain ⟨_, hq⟩ := VH.ofH_done h; exact Nat.le_of_eq (mapSet_next hq).symm
  case insert M m k v => obtain ⟨_, hq⟩ := VH.ofH_done h; exact Nat.le_of_eq (mapSet_next hq).symm
  case next it isStr =>
    simp only [opA] at h
    split at h
    · cases h
    · exact nextA_next (VH.of_done h)
  case convert S D x =>
    simp only [opA] at h
    split at h
    · injection h with h1 h2; subst h2; exact Nat.le_refl _
    · split at h
      · injection h with h1 h2; subst h2; exact Nat.le_refl _
      · exact bytesA_next (VH.of_done h)
  case call c =>
    obtain ⟨callee, args, tys⟩ := c
    cases callee
    case value f =>
      simp only [opA] at h
      split at h
      · rename_i g pre cap hg
        cases hc : s.call g (pre ++ (args.toList.map fun y => opnd y e) ++ cap) A with
        | stuck l => rw [hc] at h; cases h
        | done v A'' =>
          rw [hc] at h
          injection h with h1 h2; subst h2
          exact (hs.call _ _ _ v A'' hc).1
      · rename_i β hg
        cases hc : s.yield β (args.toList.map fun y => opnd y e) A with
        | stuck l => rw [hc] at h; cases h
        | done v A'' =>
          rw [hc] at h
          injection h with h1 h2; subst h2
          exact (hs.yield _ _ _ v A'' hc).1
      · cases h
    case builtin b =>
      cases b
      case append =>
        simp only [opA] at h
        split at h
        · exact appendA_next (VH.of_done h)
        · cases h
      case copy =>
        simp only [opA] at h
        split at h
        · exact copyA_next (VH.of_done h)
        · cases h
      case clear =>
        simp only [opA] at h
        split at h
        · split at h
          · rename_i hq
            injection h with h1 h2; subst h2; exact Nat.le_of_eq (clearA_next hq).symm
          · cases h
        · cases h
      all_goals
        simp only [opA] at h
        split at h
        · injection h with h1 h2; subst h2; exact Nat.le_refl _
        · exact ofV_next h
    all_goals
      simp only [opA] at h
      split at h
      · injection h with h1 h2; subst h2; exact Nat.le_refl _
      · exact ofV_next h
  all_goals
    simp only [opA] at h
    exact ofV_next h

theorem semAt_eq {o : Oper} {ev : Operand → Value} (r : Option Nat) (h : ∀ c, o.op ≠ .defer c) : o.semAt r ev = execOp ev o := by
  cases r with
  | none => rfl
  | some l => exact Oper.semAt_some l ev o h

theorem opA_defer {s : Self} {op : Op} {e : En} {A A' : AH} {r : AV} (h : opA op P s e A = .done r A') : ∀ c, op ≠ .defer c := by
  intro c hc
  subst hc
  cases h
theorem light_defer {op : Op} {e : En} {r : AV} (h : light op P e = some r) : ∀ c, op ≠ .defer c := by
  intro c hc
  subst hc
  cases h
theorem reads_defer {op : Op} {e : En} {A : AH} {r : AV} (h : reads op P e A = some r) : ∀ c, op ≠ .defer c := by
  intro c hc
  subst hc
  cases h
theorem allocL_defer {op : Op} {e : En} {r : NV × AObj} (h : allocL op P e = some r) : ∀ c, op ≠ .defer c := by
  intro c hc
  subst hc
  cases h

/-- An operation that hands a value. -/
theorem wpIn_value {F : Fence} {n : Nat} (hF : Free F) {o : Oper} {a : Act} {w w' : World} {val : Value} {K : Act → World → Prop} {Q : Exit → Act → World → Prop} (hd : ∀ c, o.op ≠ .defer c) (h : (execOp a.eval o).run P w = .ok (.value val) w') (hk : K (a.put o.dst val) w') : o.wpIn F n P a w K Q := by
  refine ⟨fun f _ => hF.fn f, ?_⟩
  rw [semAt_eq _ hd, h]
  exact hk

/-- One operation, carried out. -/
theorem oper_step {F : Fence} {n : Nat} (hF : Free F) {s : Self} (hs : CallsOK P s) {A A' : AH} {ρ : Rho} {w : World} (hr : HR A ρ w) {o : Oper} {e : En} {a : Act} (H : ∀ x ∈ o.op.operands, VR ρ (opnd x e) (a.eval x)) {r : AV}
    (h : opA o.op P s e A = .done r A') (hwin : Win A.next A'.next ρ) {K : Act → World → Prop} {Q : Exit → Act → World → Prop}
    (hk : ∀ ρ' w' val, VR ρ' r val → Step A ρ w A' ρ' w' → K (a.put o.dst val) w') : o.wpIn F n P a w K Q := by
  have hdf := opA_defer h
  by_cases hc : ∃ c f, o.op = .call c ∧ c.callee = .value f
  · obtain ⟨c, f, ho, hf⟩ := hc
    rw [ho] at h
    simp only [opA, hf] at h
    split at h
    · rename_i g pre cap hg
      cases hq : s.call g (pre ++ (c.args.toList.map fun y => opnd y e) ++ cap) A with
      | stuck l => rw [hq] at h; cases h
      | done v A'' =>
        rw [hq] at h
        injection h with h1 h2; subst h1; subst h2
        obtain ⟨_, ⟨fn, code, f1, f2, f3⟩, f4⟩ := hs.call _ _ _ v A'' hq
        have Hf : VR ρ (opnd f e) (a.eval f) := H f (by rw [ho]; simp [Op.operands, Call.operands, hf])
        rw [hg] at Hf
        obtain ⟨p, cc, g1, g2, g3⟩ := Hf
        have Ha : VRs ρ (c.args.toList.map fun y => opnd y e) (c.args.map a.eval).toList := by
          rw [Array.toList_map]
          exact args_VRs _ fun x hx => H x (by rw [ho]; simp [Op.operands, Call.operands, hf]; right; simpa using hx)
        have Hall : VRs ρ (pre ++ (c.args.toList.map fun y => opnd y e) ++ cap) (p ++ c.args.map a.eval ++ cc).toList := by
          rw [Array.toList_append, Array.toList_append]
          exact VRs.append (VRs.append g2 Ha) g3
        have hrun : (execOp a.eval o).run P w = .ok (.enter g (p ++ c.args.map a.eval ++ cc)) w := by
          have hnn : fn.body.isNone = false := by rw [f3]; rfl
          have f2' : ¬ (fn.name = "runtime.NumGoroutine") := by simpa using f2
          obtain ⟨dst, op, type, pos, after, guard⟩ := o
          simp only at ho
          subst ho
          simp [execOp, resolve, hf, g1, Deferred.ofValue, invoke, callFunc, program, Sem.run, f1, f2', f3]
        refine ⟨fun f _ => hF.fn f, ?_⟩
        rw [semAt_eq _ hdf, hrun, Oper.uponIn_enter]
        refine ⟨fun hd => by rw [hF.depth] at hd; (cases hd), CallsIn.mono (hF.call (f4 ρ w _ hr Hall hwin)) ?_⟩
        rintro e' w' ⟨val, ρ', rfl, q1, q2⟩
        exact hk ρ' w' val q1 q2
    · rename_i β hg
      cases hq : s.yield β (c.args.toList.map fun y => opnd y e) A with
      | stuck l => rw [hq] at h; cases h
      | done v A'' =>
        rw [hq] at h
        injection h with h1 h2; subst h1; subst h2
        obtain ⟨_, f4⟩ := hs.yield _ _ _ v A'' hq
        have Hf : VR ρ (opnd f e) (a.eval f) := H f (by rw [ho]; simp [Op.operands, Call.operands, hf])
        rw [hg] at Hf
        obtain ⟨b, base, sz, g1, g2⟩ := Hf
        have Ha : VRs ρ (c.args.toList.map fun y => opnd y e) (c.args.map a.eval).toList := by
          rw [Array.toList_map]
          exact args_VRs _ fun x hx => H x (by rw [ho]; simp [Op.operands, Call.operands, hf]; right; simpa using hx)
        obtain ⟨fn, tmps, as, bd, y1, y2⟩ := f4 F (n - 1) hF ρ w (c.args.map a.eval) b base sz hr Ha hwin g1
        have hrun : (execOp a.eval o).run P w = .ok (.round b fn tmps as bd) w := by
          obtain ⟨dst, op, type, pos, after, guard⟩ := o
          simp only at ho
          subst ho
          simp [execOp, resolve, hf, g2, Deferred.ofValue, invoke, callFunc, Sem.run_bind, y1]
        refine ⟨fun f _ => hF.fn f, ?_⟩
        rw [semAt_eq _ hdf, hrun, Oper.uponIn_round]
        refine ⟨fun hd => by rw [hF.depth] at hd; (cases hd), RoundIn.mono y2 ?_⟩
        rintro e' w' ⟨val, ρ', rfl, q1, q2⟩
        exact hk ρ' w' val q1 q2
    · cases h
  · have hnc : ∀ c f, o.op = .call c → c.callee ≠ .value f := fun c f h1 h2 => hc ⟨c, f, h1, h2⟩
    obtain ⟨ρ', w', n, val, q1, q2, q3, q4⟩ := opA_sound hr H hnc (fun hlt => hwin _ (Nat.le_refl _) hlt) h
    refine ⟨fun f _ => hF.fn f, ?_⟩
    rw [semAt_eq _ hdf, q1]
    rcases q2 with rfl | ⟨rfl, rfl⟩
    · exact hk ρ' w' _ q3 q4
    · exact hk ρ' w' _ q3 q4

end Go.Ab
