import Derived.Test.YtmaclibfncchgaaGreatDoorEvD
set_option linter.all false
/-! Regions whose order is drawn, carried out along a plan whose reads may be asked at older heaps too. -/
namespace Go.Ab
open Go
variable {P : Program} [LoopTab]
def backOK (P : Program) (o : Op) (e : En) (v : AV) : Nat → List AH → Prop
  | 0, _ => True
  | _ + 1, [] => False
  | b + 1, H :: t => readA P o e H = some v ∧ backOK P o e v b t
@[simp] theorem backOK_zero (o : Op) (e : En) (v : AV) (t : List AH) : backOK P o e v 0 t = True := rfl
@[simp] theorem backOK_one (o : Op) (e : En) (v : AV) (H : AH) (t : List AH) : backOK P o e v 1 (H :: t) = (readA P o e H = some v ∧ True) := rfl
@[simp] theorem backOK_two (o : Op) (e : En) (v : AV) (H H' : AH) (t : List AH) : backOK P o e v 2 (H :: H' :: t) = (readA P o e H = some v ∧ readA P o e H' = some v ∧ True) := rfl
theorem backOK.run {o : Op} {e : En} {v : AV} : ∀ {b : Nat} {t : List AH}, backOK P o e v b t → (b = 0 ∨ eqAV v v = true) → backA P o e v b t = true
  | 0, _, _, _ => rfl
  | b + 1, [], h, _ => h.elim
  | b + 1, H :: t, ⟨h1, h2⟩, h3 => by
    have h4 : eqAV v v = true := h3.resolve_left (Nat.succ_ne_zero b)
    have e1 : backA P o e v (b + 1) (H :: t) = Option.rec (motive := fun _ => Bool) false (fun u => Bool.rec false (backA P o e v b t) (eqAV v u)) (readA P o e H) := rfl
    rw [e1, h1]
    simp only [h4]
    exact backOK.run h2 (.inr h4)
variable {ops : Array Oper} {s : Self} {l : List (Nat × Nat)} {e : En} {A : AH} {hs : List AH} {K : En → AH → Prop} {i b : Nat} {o : Oper}
def RB (P : Program) (ops : Array Oper) (s : Self) (l : List (Nat × Nat)) (e : En) (A : AH) (hs : List AH) (K : En → AH → Prop) : Prop :=
  ∃ e' A' hs', runP P ops none (l.map fun p => (p.2, ops[p.1]?)) s e A hs .none = .done e' A' hs' .none ∧ K e' A'
theorem RB.nil (h : K e A) : RB P ops s [] e A hs K := ⟨e, A, hs, rfl, h⟩
/-- One place, by its class. -/
def stepB (P : Program) (s : Self) (o : Oper) (b : Nat) (e : En) (A : AH) (hs : List AH) (K : AV → AH → List AH → Prop) : Prop :=
  match cls o.op with
  | .pure => thenO (light o.op P e) fun v => K v A hs
  | .read => (match hs with | [] => False | H :: t => thenO (readA P o.op e H) fun v => (b = 0 ∨ eqAV v v = true) ∧ backOK P o.op e v b t ∧ K v A (H :: t))
  | .alloc => thenO (allocL o.op P e) fun r => K (r.1.at A.next) (A.push r.2) hs
  | .heavy => thenV (opA o.op P s e A) fun v A₁ => K v A₁ (A₁ :: hs)
  | _ => False
theorem RB.step (hi : ops[i]? = some o) (hw : wantedA ops o.guard e = some true) (h : stepB P s o b e A hs fun v A₁ hs₁ => RB P ops s l (bindE o.dst e v) A₁ hs₁ K) : RB P ops s ((i, b) :: l) e A hs K := by
  unfold stepB at h
  unfold RB
  rw [List.map_cons, runP_cons, hi]
  simp only [stepP, hw]
  split at h
  · rename_i hc
    cases hq : light o.op P e with
    | none => rw [hq] at h; exact h.elim
    | some v => rw [hq] at h; simp only [clsL, hc, bindO, hq]; exact h
  · rename_i hc
    cases hs with
    | nil => exact h.elim
    | cons H t =>
      simp only at h
      cases hq : readA P o.op e H with
      | none => rw [hq] at h; exact h.elim
      | some v =>
        rw [hq] at h
        obtain ⟨h1, h2, h3⟩ := h
        simp only [clsL, hc, readP, hq, h2.run h1]
        exact h3
  · rename_i hc
    cases hq : allocL o.op P e with
    | none => rw [hq] at h; exact h.elim
    | some v => rw [hq] at h; simp only [clsL, hc, allocP, hq]; exact h
  · rename_i hc
    cases hq : opA o.op P s e A with
    | stuck q => rw [hq] at h; exact h.elim
    | done v A₁ => rw [hq] at h; simp only [clsL, hc, heavyP, hq]; exact h
  · exact h.elim
theorem RB.un (hi : ops[i]? = some o) (hw : wantedA ops o.guard e = some false) (hc : cls o.op ≠ .heavy) (h : RB P ops s l (bindE o.dst e (.tup [])) A hs K) : RB P ops s ((i, b) :: l) e A hs K := by
  unfold RB
  rw [List.map_cons, runP_cons, hi]
  have hh : isHeavy (clsL none o) = false := by
    simp only [clsL]
    cases hq : cls o.op <;> first | rfl | exact absurd hq hc
  simp only [stepP, hw, hh]
  exact h
theorem RB.unH (hi : ops[i]? = some o) (hw : wantedA ops o.guard e = some false) (hc : cls o.op = .heavy) (h : RB P ops s l (bindE o.dst e (.tup [])) A (A :: hs) K) : RB P ops s ((i, b) :: l) e A hs K := by
  unfold RB
  rw [List.map_cons, runP_cons, hi]
  have hh : isHeavy (clsL none o) = true := by simp only [clsL, hc]; rfl
  simp only [stepP, hw, hh]
  exact h
theorem W.drawnB {n : Nat} {nr : Bool} {id : Nat} {Q : Ex → En → AH → Prop} (hm : P.follows .mixedOrders = true) (hs : CallsOK P s) (pl : List (Nat × Nat)) (hd : dstsOK n ops.toList = true) (hok : planOK ops none pl = true) (h : RB P ops s pl e A [A] (fun e A => Q .normal e A)) : W P n nr (.region id ops true) e A Q := by
  obtain ⟨e', A', hs', hrun, h2⟩ := h
  exact W.drawn hm hs pl hd hok hrun h2
theorem eqAV_slice (β o n c : Nat) (ex : Bool) (z : Nat) : eqAV (.slice β o n c ex z) (.slice β o n c ex z) = true := by simp [eqAV, eqS]
theorem eqAV_nilslice : eqAV .nilslice .nilslice = true := rfl
theorem eqAV_ptr (β o : Nat) : eqAV (.ptr β o) (.ptr β o) = true := by simp [eqAV, eqS]
theorem eqAV_int (k : IntKind) (n : Int) : eqAV (.int k n) (.int k n) = true := by
  simp [eqAV, eqS, intEq]
  cases n <;> simp
end Go.Ab
