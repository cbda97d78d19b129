import Derived.Test.YtmaclibfncchgaaGreatDoorEvB
import Derived.RangeFuncLeaves
import Derived.RangeFuncRecord
import Derived.Below
set_option linter.all false
namespace Go.Ab
open Go
variable {P : Program} [LoopTab]

/-! ### heaps as sets of objects -/
structure HRr (G : Nat → AObj → Prop) (ρ : Rho) (w : World) : Prop where
  obj : ∀ β x, G β x → ∃ b base sz, ρ β = some (b, base, sz) ∧ OR ρ w b base sz x
  inj : ∀ β β' x x' l l', G β x → G β' x' → x.live = true → x'.seen = true → β ≠ β' → ρ β = some l → ρ β' = some l' → l.1 ≠ l'.1

theorem HRr.sub {G G' : Nat → AObj → Prop} {ρ : Rho} {w : World} (h : HRr G ρ w) (hs : ∀ β x, G' β x → G β x) : HRr G' ρ w :=
  ⟨fun β x hx => h.obj β x (hs _ _ hx), fun β β' x x' l l' h1 h2 => h.inj β β' x x' l l' (hs _ _ h1) (hs _ _ h2)⟩

theorem HRr.heap {A : AH} {ρ : Rho} {w : World} (h : HRr (fun β x => A.get β = some x) ρ w) (ht : ∀ β x, A.get β = some x → β < A.next) : HR A ρ w := ⟨h.obj, h.inj, ht⟩
theorem HR.set {A : AH} {ρ : Rho} {w : World} (h : HR A ρ w) : HRr (fun β x => A.get β = some x) ρ w := ⟨h.obj, h.inj⟩

/-- Objects beside a heap stay as they are while the heap takes a step. -/
theorem HRr.step {A A' : AH} {σ σ' : Rho} {w w' : World} {G D : Nat → AObj → Prop} (h : HRr G σ w) (hA : ∀ β x, A.get β = some x → G β x) (hst : Step A σ w A' σ' w') (hD : ∀ β x, D β x → G β x ∧ A.get β = none ∧ (β < A.next ∨ A'.next ≤ β)) :
    HRr (fun β x => A'.get β = some x ∨ D β x) σ' w' := by
  have keep : ∀ β x l, D β x → x.seen = true → σ β = some l → w'.heap[l.1]? = w.heap[l.1]? ∧ l.1 < w.heap.size ∧ ∀ β₀ x₀ l₀, A.get β₀ = some x₀ → x₀.live = true → σ β₀ = some l₀ → l₀.1 ≠ l.1 := by
    intro β x l hd hl hσ
    obtain ⟨h1, h2, h3⟩ := hD β x hd
    obtain ⟨b, base, sz, g1, g2⟩ := h.obj β x h1
    rw [hσ] at g1; injection g1 with g1; subst g1
    have hne : ∀ β₀ x₀ l₀, A.get β₀ = some x₀ → x₀.live = true → σ β₀ = some l₀ → l₀.1 ≠ b := fun β₀ x₀ l₀ q1 q2 q3 =>
      h.inj β₀ β x₀ x l₀ _ (hA _ _ q1) h1 q2 hl (fun e => by subst e; rw [h2] at q1; cases q1) q3 hσ
    exact ⟨hst.same b (g2.lt hl) hne, g2.lt hl, hne⟩
  refine ⟨fun β x hx => ?_, fun β β' x x' l l' h1 h2 h3 h4 h5 h6 h7 => ?_⟩
  · rcases hx with hx | hx
    · exact hst.hr.obj β x hx
    · obtain ⟨h1, h2, h3⟩ := hD β x hx
      obtain ⟨b, base, sz, g1, g2⟩ := h.obj β x h1
      refine ⟨b, base, sz, hst.le _ _ g1, ?_⟩
      by_cases hl : x.seen = true
      · exact g2.congr hst.le hst.size (keep β x _ hx hl g1).1
      · cases x <;> first | exact trivial | exact absurd rfl hl
  · -- an object of the new heap and one beside it, one of them live
    have key : ∀ (k : Bool) β β' x x' l l', A'.get β = some x → D β' x' → x.kin k = true → x'.kin (!k) = true → σ' β = some l → σ' β' = some l' → l.1 ≠ l'.1 := by
      intro k β β' x x' l l' q1 q2 q3 q4 q5 q6 e
      obtain ⟨h1, h2, h3⟩ := hD β' x' q2
      obtain ⟨b, base, sz, g1, g2⟩ := h.obj β' x' h1
      have := hst.le _ _ g1
      rw [q6] at this; injection this with this; subst this
      have hlt := g2.lt (AObj.kin_seen q4)
      simp only at e
      obtain ⟨β₀, x₀, l₀, f1, f2, f3, f4⟩ := hst.img k β x l q1 q3 q5 (e ▸ hlt)
      have hne : β₀ ≠ β' := fun e => by subst e; rw [h2] at f1; cases f1
      cases k with
      | true => exact h.inj β₀ β' x₀ x' l₀ _ (hA _ _ f1) h1 f2 q4 hne f3 g1 (f4.trans e)
      | false => exact h.inj β' β₀ x' x₀ _ l₀ h1 (hA _ _ f1) q4 f2 (fun e => hne e.symm) g1 f3 (f4.trans e).symm
    rcases h1 with h1 | h1 <;> rcases h2 with h2 | h2
    · exact hst.hr.inj β β' x x' l l' h1 h2 h3 h4 h5 h6 h7
    · exact key true β β' x x' l l' h1 h2 h3 h4 h6 h7
    · exact fun e => key false β' β x' x l' l h2 h1 h4 h3 h7 h6 e.symm
    · obtain ⟨a1, a2, a3⟩ := hD β x h1
      obtain ⟨b1, b2, b3⟩ := hD β' x' h2
      obtain ⟨_, _, _, g1, _⟩ := h.obj β x a1
      obtain ⟨_, _, _, g2, _⟩ := h.obj β' x' b1
      have e1 := hst.le _ _ g1
      have e2 := hst.le _ _ g2
      rw [h6] at e1; rw [h7] at e2
      injection e1 with e1; injection e2 with e2
      subst e1; subst e2
      exact h.inj β β' x x' _ _ a1 b1 h3 h4 h5 g1 g2

/-! ### slots bound by some of the places -/
open Classical in
/-- The bindings of the places below k that are in S. -/
noncomputable def envS (dst : Nat → Option Nat) (v : Nat → AV) (e : En) (S : Nat → Prop) : Nat → En
  | 0 => e
  | k + 1 => if S k then bindE (dst k) (envS dst v e S k) (v k) else envS dst v e S k

theorem get_bindE (d : Option Nat) (e : En) (v : AV) (t : Nat) : (bindE d e v).get t = if d = some t then v else e.get t := by
  cases d with
  | none => simp [bindE]
  | some d =>
    show (En.bind d v e).get t = _
    rw [En.get_bind]
    by_cases h : t = d
    · subst h; simp
    · have : ¬ (some d = some t) := fun e => h (by injection e with e; exact e.symm)
      simp [h, this]

theorem envS_congr {dst : Nat → Option Nat} {v : Nat → AV} {e : En} {S S' : Nat → Prop} {t : Nat} : ∀ k, (∀ m, m < k → dst m = some t → (S m ↔ S' m)) → (envS dst v e S k).get t = (envS dst v e S' k).get t
  | 0, _ => rfl
  | k + 1, h => by
    have ih := envS_congr (dst := dst) (v := v) (e := e) (S := S) (S' := S') (t := t) k fun m hm => h m (Nat.lt_succ_of_lt hm)
    simp only [envS]
    by_cases hd : dst k = some t
    · have := h k (Nat.lt_succ_self k) hd
      by_cases hs : S k
      · rw [if_pos hs, if_pos (this.1 hs), get_bindE, get_bindE, if_pos hd, if_pos hd]
      · rw [if_neg hs, if_neg (fun q => hs (this.2 q))]; exact ih
    · have e1 : ∀ S : Nat → Prop, ((open Classical in if S k then bindE (dst k) (envS dst v e S k) (v k) else envS dst v e S k) : En).get t = (envS dst v e S k).get t := by
        intro S
        split
        · rw [get_bindE, if_neg hd]
        · rfl
      rw [e1, e1]; exact ih

/-- From k on nothing of S binds t. -/
theorem envS_tail {dst : Nat → Option Nat} {v : Nat → AV} {e : En} {S : Nat → Prop} {t k : Nat} : ∀ n, k ≤ n → (∀ m, k ≤ m → m < n → dst m = some t → ¬ S m) → (envS dst v e S n).get t = (envS dst v e S k).get t
  | 0, h, _ => by have : k = 0 := by omega
                  subst this; rfl
  | n + 1, h, hn => by
    by_cases hk : k = n + 1
    · subst hk; rfl
    · have ih := envS_tail (dst := dst) (v := v) (e := e) (S := S) (t := t) (k := k) n (by omega) fun m h1 h2 => hn m h1 (Nat.lt_succ_of_lt h2)
      simp only [envS]
      split
      · rename_i hs
        rw [get_bindE, if_neg (fun hd => hn n (by omega) (Nat.lt_succ_self n) hd hs)]; exact ih
      · exact ih
end Go.Ab

namespace Go.Ab
open Go
variable {P : Program} [LoopTab]

def Cls.isPure (c : Cls) : Bool := match c with | .pure => true | _ => false

/-- A run along a plan, place by place, with what the plan's static check says. -/
structure Canon (P : Program) (ops : Array Oper) (lt : Option Nat) (s : Self) where
  n : Nat
  i : Nat → Nat
  o : Nat → Oper
  want : Nat → Bool
  v : Nat → AV
  e : Nat → En
  H : Nat → AH
  hs : Nat → List AH
  b : Nat → Nat
  cnt : Nat → Nat
  len : n = ops.size
  get : ∀ k, k < n → ops[i k]? = some (o k)
  inj : ∀ k p, k < n → p < n → i k = i p → k = p
  sur : ∀ j, j < ops.size → ∃ k, k < n ∧ i k = j
  est : ∀ k, k < n → e (k + 1) = bindE (o k).dst (e k) (v k)
  cnt0 : cnt 0 = 0
  cnts : ∀ k, k < n → cnt (k + 1) = if isHeavy (clsL lt (o k)) then cnt k + 1 else cnt k
  hs0 : hs 0 = [H 0]
  hst : ∀ k, k < n → hs (k + 1) = if isHeavy (clsL lt (o k)) then H (k + 1) :: hs k else hs k
  wanted : ∀ k, k < n → wantedA ops (o k).guard (e k) = some (want k)
  un : ∀ k, k < n → want k = false → v k = .tup [] ∧ H (k + 1) = H k
  pure : ∀ k, k < n → want k = true → clsL lt (o k) = .pure → light (o k).op P (e k) = some (v k) ∧ H (k + 1) = H k
  read : ∀ k, k < n → want k = true → clsL lt (o k) = .read → H (k + 1) = H k ∧ ∀ j, j ≤ b k → ∃ A, (hs k)[j]? = some A ∧ readA P (o k).op (e k) A = some (v k)
  alloc : ∀ k, k < n → want k = true → clsL lt (o k) = .alloc → ∃ nv x, allocL (o k).op P (e k) = some (nv, x) ∧ v k = nv.at (H k).next ∧ H (k + 1) = (H k).push x
  heavy : ∀ k, k < n → want k = true → clsL lt (o k) = .heavy → opA (o k).op P s (e k) (H k) = .done (v k) (H (k + 1))
  L : Nat → LR
  L0 : L 0 = .none
  Lst : ∀ k, k < n → (want k = true → clsL lt (o k) ≠ .born ∧ clsL lt (o k) ≠ .late) → L (k + 1) = L k
  born : ∀ k, k < n → want k = true → clsL lt (o k) = .born → allocL (o k).op P (e k) = some (.map, .map [] 0) ∧ v k = .map (H k).next ∧ H (k + 1) = (H k).push .dead ∧ L k = .none ∧ L (k + 1) = .some (H k).next []
  late : ∀ k, k < n → want k = true → clsL lt (o k) = .late → H (k + 1) = H k ∧ v k = .any ∧ ∃ M m ky x el β es, (o k).op = .insert M m ky x ∧ keyKind P M (opnd ky (e k)) = some el ∧ opnd m (e k) = .map β ∧ L k = .some β es ∧ freshKey (opnd ky (e k)) es = true ∧ L (k + 1) = .some β (es ++ [(opnd ky (e k), opnd x (e k))])
  /-- executed first -/
  Needs : Nat → Nat → Prop
  needs : ∀ k p, k < n → p < k → Needs k p → ∀ S : Nat → Prop, (∀ q, q < n → S q → ∀ ed ∈ (o q).after, Region.binds .any ed = true → ∀ r, r < n → i r = ed.on → S r) →
    (∀ ed ∈ (o k).after, Region.binds .any ed = true → ∀ r, r < n → i r = ed.on → S r) → S p
  edges : ∀ k, k < n → ∀ ed ∈ (o k).after, Region.binds .any ed = true → ∃ p, p < k ∧ i p = ed.on
  slots : ∀ k p, k < n → p < k → Needs k p ∨ (o p).apart ops (o k) = true
  heavies : ∀ k p, k < n → p < k → clsL lt (o k) = .heavy → clsL lt (o p) ≠ .pure → Needs k p
  lates : ∀ k p, k < n → p < k → clsL lt (o k) = .late → clsL lt (o p) = .born → Needs k p
  reads : ∀ k p, k < n → p < k → clsL lt (o k) = .read → clsL lt (o p) = .heavy → b k + cnt (p + 1) ≤ cnt k → Needs k p

namespace Canon
variable {ops : Array Oper} {lt : Option Nat} {s : Self} (C : Canon P ops lt s)

def Closed (S : Nat → Prop) : Prop := ∀ q, q < C.n → S q → ∀ ed ∈ (C.o q).after, Region.binds .any ed = true → ∀ r, r < C.n → C.i r = ed.on → S r
def Ready (S : Nat → Prop) (k : Nat) : Prop := ∀ ed ∈ (C.o k).after, Region.binds .any ed = true → ∀ r, r < C.n → C.i r = ed.on → S r
def dst (k : Nat) : Option Nat := (C.o k).dst

theorem need {S : Nat → Prop} {k p : Nat} (hk : k < C.n) (hp : p < k) (hn : C.Needs k p) (hc : C.Closed S) (hr : C.Ready S k) : S p := C.needs k p hk hp hn S hc hr

theorem heavy_iff (k : Nat) : isHeavy (clsL lt (C.o k)) = true ↔ clsL lt (C.o k) = .heavy := by
  cases clsL lt (C.o k) <;> simp [isHeavy]

theorem mono (hs : CallsOK P s) : ∀ k, k < C.n → (C.H k).next ≤ (C.H (k + 1)).next := by
  intro k hk
  cases hw : C.want k with
  | false => rw [(C.un k hk hw).2]; exact Nat.le_refl _
  | true =>
    cases hc : clsL lt (C.o k) with
    | pure => rw [(C.pure k hk hw hc).2]; exact Nat.le_refl _
    | read => rw [(C.read k hk hw hc).1]; exact Nat.le_refl _
    | alloc => obtain ⟨nv, x, _, _, h⟩ := C.alloc k hk hw hc; rw [h]; exact Nat.le_succ _
    | heavy => exact opA_next hs (C.heavy k hk hw hc)
    | born => rw [(C.born k hk hw hc).2.2.1]; exact Nat.le_succ _
    | late => rw [(C.late k hk hw hc).1]; exact Nat.le_refl _
theorem mono' (hs : CallsOK P s) {k p : Nat} (h : k ≤ p) (hp : p ≤ C.n) : (C.H k).next ≤ (C.H p).next := by
  induction p with
  | zero => have : k = 0 := by omega
            subst this; exact Nat.le_refl _
  | succ p ih =>
    by_cases e : k = p + 1
    · subst e; exact Nat.le_refl _
    · exact Nat.le_trans (ih (by omega) (by omega)) (C.mono hs p (by omega))

theorem cnt_mono {k p : Nat} (h : k ≤ p) (hp : p ≤ C.n) : C.cnt k ≤ C.cnt p := by
  induction p with
  | zero => have : k = 0 := by omega
            subst this; exact Nat.le_refl _
  | succ p ih =>
    by_cases e : k = p + 1
    · subst e; exact Nat.le_refl _
    · have := ih (by omega) (by omega)
      rw [C.cnts p (by omega)]
      split <;> omega

/-- The first heavy operation behind m. -/
theorem first_heavy {m k : Nat} (hm : m ≤ k) (hk : k ≤ C.n) (h : C.cnt m < C.cnt k) : ∃ p, m ≤ p ∧ p < k ∧ clsL lt (C.o p) = .heavy ∧ C.cnt (p + 1) = C.cnt m + 1 := by
  induction k with
  | zero => have : m = 0 := by omega
            subst this; omega
  | succ k ih =>
    by_cases hmk : m = k + 1
    · subst hmk; omega
    · by_cases hlt : C.cnt m < C.cnt k
      · obtain ⟨p, h1, h2, h3⟩ := ih (by omega) (by omega) hlt
        exact ⟨p, h1, by omega, h3⟩
      · have hq := C.cnts k (by omega)
        have hmm := C.cnt_mono (show m ≤ k by omega) (by omega)
        by_cases hh : isHeavy (clsL lt (C.o k)) = true
        · rw [if_pos hh] at hq
          exact ⟨k, by omega, Nat.lt_succ_self k, (C.heavy_iff k).1 hh, by omega⟩
        · rw [if_neg hh] at hq; omega

/-- A front: the place behind a heavy operation, or the first. -/
def Front (m : Nat) : Prop := m = 0 ∨ ∃ q, m = q + 1 ∧ q < C.n ∧ clsL lt (C.o q) = .heavy

theorem hs_get {m k : Nat} (hm : m ≤ k) (hk : k ≤ C.n) (hf : C.Front m) : (C.hs k)[C.cnt k - C.cnt m]? = some (C.H m) := by
  induction k with
  | zero =>
    have : m = 0 := by omega
    subst this
    rw [C.hs0]; simp
  | succ k ih =>
    by_cases hmk : m = k + 1
    · subst hmk
      rcases hf with hf | ⟨q, hq, hqn, hqh⟩
      · omega
      · have : q = k := by omega
        subst this
        rw [C.hst q hqn, if_pos ((C.heavy_iff q).2 hqh)]
        simp
    · have ih := ih (by omega) (by omega)
      have hmm := C.cnt_mono (show m ≤ k by omega) (by omega)
      rw [C.hst k (by omega), C.cnts k (by omega)]
      split
      · rw [show C.cnt k + 1 - C.cnt m = (C.cnt k - C.cnt m) + 1 by omega]
        simpa using ih
      · exact ih

/-- The slots that the places of S have bound. -/
noncomputable def env (S : Nat → Prop) (k : Nat) : En := envS C.dst C.v (C.e 0) S k
theorem env_all : ∀ k, k ≤ C.n → ∀ t, (C.env (fun _ => True) k).get t = (C.e k).get t
  | 0, _, t => rfl
  | k + 1, h, t => by
    have ih := env_all k (by omega) t
    rw [C.est k (by omega), get_bindE, ← ih]
    simp only [env, envS, if_true]
    rw [get_bindE]; rfl

theorem looks_slot {S : Nat → Prop} {k t : Nat} (hk : k < C.n) (hn : ¬ S k) (hc : C.Closed S) (hr : C.Ready S k) (ht : t ∈ (C.o k).looksAt ops) : (C.env S C.n).get t = (C.e k).get t := by
  rw [← C.env_all k (by omega)]
  have h1 : (C.env S C.n).get t = (C.env S k).get t := envS_tail C.n (by omega) fun m hm hmn hd hS => by
    by_cases e : m = k
    · subst e; exact hn hS
    · rcases C.slots m k hmn (by omega) with h | h
      · exact hn (C.need hmn (by omega) h hc (hc m hmn hS))
      · exact (Oper.apart_spec h).2.2 t hd ht
  rw [h1]
  exact envS_congr k fun m hm hd => ⟨fun _ => trivial, fun _ => by
    rcases C.slots k m hk hm with h | h
    · exact C.need hk hm h hc hr
    · exact absurd ht ((Oper.apart_spec h).1 t hd)⟩

theorem put_slot {S : Nat → Prop} {k : Nat} (hk : k < C.n) (hn : ¬ S k) (hc : C.Closed S) (t : Nat) :
    (C.env (fun q => S q ∨ q = k) C.n).get t = if C.dst k = some t then C.v k else (C.env S C.n).get t := by
  split
  · rename_i hd
    have h1 : (C.env (fun q => S q ∨ q = k) C.n).get t = (C.env (fun q => S q ∨ q = k) (k + 1)).get t := envS_tail C.n (by omega) fun m hm hmn hdm hS => by
      rcases hS with hS | hS
      · rcases C.slots m k hmn (by omega) with h | h
        · exact hn (C.need hmn (by omega) h hc (hc m hmn hS))
        · exact (Oper.apart_spec h).2.1 t hd hdm
      · omega
    rw [h1]
    simp only [env, envS, or_true, if_true]
    rw [get_bindE, if_pos hd]
  · rename_i hd
    refine envS_congr C.n fun m hm hdm => ⟨fun h => ?_, fun h => .inl h⟩
    rcases h with h | h
    · exact h
    · subst h; exact absurd hdm hd

end Canon
end Go.Ab

namespace Go.Ab
open Go
variable {P : Program} [LoopTab]

namespace Canon
variable {ops : Array Oper} {lt : Option Nat} {s : Self} (C : Canon P ops lt s)

def IsAl (c : Cls) : Prop := c = .alloc ∨ c = .born
/-- The live objects: those of the heap behind the last heavy operation, and what was made since. -/
def G (S : Nat → Prop) (m : Nat) (β : Nat) (x : AObj) : Prop :=
  (C.H m).get β = some x ∨ ∃ k, k < C.n ∧ S k ∧ m ≤ k ∧ C.want k = true ∧ IsAl (clsL lt (C.o k)) ∧ β = (C.H k).next ∧ (C.H (k + 1)).get β = some x

/-- A place that puts an entry into the map whose entries come in any order. -/
def IsLate (k : Nat) : Prop := k < C.n ∧ C.want k = true ∧ clsL lt (C.o k) = .late
noncomputable def lkey (k : Nat) : AV := match (C.o k).op with | .insert _ _ ky _ => opnd ky (C.e k) | _ => .any
noncomputable def lval (k : Nat) : AV := match (C.o k).op with | .insert _ _ _ x => opnd x (C.e k) | _ => .any
/-- The entries of some places, in their order. -/
def LEnts (σ : Rho) : List Nat → List MapEntry → Nat → Prop
  | [], [], _ => True
  | p :: q, m :: ms, i => VR σ (C.lkey p) m.key ∧ VR σ (C.lval p) m.val ∧ m.born = i ∧ LEnts σ q ms (i + 1)
  | [], _ :: _, _ => False
  | _ :: _, [], _ => False
/-- The map whose entries come in any order, as it stands. -/
def LateOK (w₀ : World) (S : Nat → Prop) (m : Nat) (σ : Rho) (w : World) (β : Nat) : Prop :=
  ∃ b es q, σ β = some (b, 0, 0) ∧ w₀.heap.size ≤ b ∧ w.heap[b]? = some (.map es es.size) ∧ (∀ β' x l, C.G S m β' x → x.seen = true → σ β' = some l → l.1 ≠ b) ∧ q.Nodup ∧ (∀ p, p ∈ q ↔ C.IsLate p ∧ S p) ∧ C.LEnts σ q es.toList 0

structure Inv (ρ₀ : Rho) (w₀ : World) (a₀ : Act) (S : Nat → Prop) (σ : Rho) (a : Act) (w : World) (m : Nat) : Prop where
  mle : m ≤ C.n
  front : m = 0 ∨ ∃ q, m = q + 1 ∧ q < C.n ∧ clsL lt (C.o q) = .heavy ∧ S q
  last : ∀ k, k < C.n → S k → clsL lt (C.o k) = .heavy → k < m
  hr : HRr (C.G S m) σ w
  top : ∀ β x, (C.H m).get β = some x → β < (C.H m).next
  fresh : ∀ k, k < C.n → ¬ S k → ∀ β, (C.H k).next ≤ β → β < (C.H (k + 1)).next → σ β = none
  slots : ∀ t, VR σ ((C.env S C.n).get t) (a.eval (.tmp t))
  le : ρ₀.le σ
  win : ∀ β, β < (C.H 0).next ∨ (C.H C.n).next ≤ β → σ β = ρ₀ β
  size : w₀.heap.size ≤ w.heap.size
  same : ∀ b, b < w₀.heap.size → (∀ β x l, (C.H 0).get β = some x → x.live = true → ρ₀ β = some l → l.1 ≠ b) → w.heap[b]? = w₀.heap[b]?
  img : ∀ (k : Bool) β x l, C.G S m β x → x.kin k = true → σ β = some l → l.1 < w₀.heap.size → ∃ β₀ x₀ l₀, (C.H 0).get β₀ = some x₀ ∧ x₀.kin k = true ∧ ρ₀ β₀ = some l₀ ∧ l₀.1 = l.1
  os : w.os = w₀.os
  output : w.output = w₀.output
  tape : w.tape = w₀.tape
  lat : ∀ k, k < C.n → S k → C.want k = true → clsL lt (C.o k) = .born → C.LateOK w₀ S m σ w (C.H k).next
  defers : a.defers = a₀.defers
  tsz : a.tmps.size = a₀.tmps.size

theorem Front.of {m : Nat} {S : Nat → Prop} (h : m = 0 ∨ ∃ q, m = q + 1 ∧ q < C.n ∧ clsL lt (C.o q) = .heavy ∧ S q) : C.Front m := by
  rcases h with h | ⟨q, h1, h2, h3, _⟩
  · exact .inl h
  · exact .inr ⟨q, h1, h2, h3⟩

theorem LEnts.mono {σ σ' : Rho} (h : σ.le σ') : ∀ {q : List Nat} {ms : List MapEntry} {i : Nat}, C.LEnts σ q ms i → C.LEnts σ' q ms i
  | [], [], _, _ => trivial
  | _ :: _, _ :: _, _, ⟨h1, h2, h3, h4⟩ => ⟨VR.mono h _ _ h1, VR.mono h _ _ h2, h3, LEnts.mono h h4⟩
  | [], _ :: _, _, h => h.elim
  | _ :: _, [], _, h => h.elim
theorem LEnts.append {σ : Rho} {p : Nat} {m : MapEntry} (hk : VR σ (C.lkey p) m.key) (hv : VR σ (C.lval p) m.val) : ∀ {q : List Nat} {ms : List MapEntry} {i : Nat}, m.born = i + ms.length → C.LEnts σ q ms i → C.LEnts σ (q ++ [p]) (ms ++ [m]) i
  | [], [], i, hb, _ => ⟨hk, hv, by simpa using hb, trivial⟩
  | _ :: q, _ :: ms, i, hb, ⟨h1, h2, h3, h4⟩ => ⟨h1, h2, h3, LEnts.append hk hv (by simp at hb; omega) h4⟩
  | [], _ :: _, _, _, h => h.elim
  | _ :: _, [], _, _, h => h.elim

omit [LoopTab] in
theorem L_some : ∀ p, p ≤ C.n → ∀ β es, C.L p = .some β es → ∃ kb, kb < p ∧ C.want kb = true ∧ clsL lt (C.o kb) = .born ∧ β = (C.H kb).next
  | 0, _, β, es, h => by rw [C.L0] at h; cases h
  | p + 1, hp, β, es, h => by
    by_cases hq : C.want p = true ∧ (clsL lt (C.o p) = .born ∨ clsL lt (C.o p) = .late)
    · obtain ⟨hw, hc | hc⟩ := hq
      · obtain ⟨_, _, _, _, h5⟩ := C.born p (by omega) hw hc
        rw [h5] at h; injection h with h1 h2
        exact ⟨p, Nat.lt_succ_self p, hw, hc, h1.symm⟩
      · obtain ⟨_, _, M, mo, ky, x, el, β', es', _, _, _, h4, _, h6⟩ := C.late p (by omega) hw hc
        rw [h6] at h; injection h with h1 h2; subst h1
        obtain ⟨kb, g1, g2⟩ := L_some p (by omega) _ _ h4
        exact ⟨kb, by omega, g2⟩
    · rw [C.Lst p (by omega) (fun hw => ⟨fun hc => hq ⟨hw, .inl hc⟩, fun hc => hq ⟨hw, .inr hc⟩⟩)] at h
      obtain ⟨kb, g1, g2⟩ := L_some p (by omega) _ _ h
      exact ⟨kb, by omega, g2⟩
omit [LoopTab] in
theorem L_after {kb : Nat} (hw : C.want kb = true) (hc : clsL lt (C.o kb) = .born) : ∀ p, kb < p → p ≤ C.n → ∃ es, C.L p = .some (C.H kb).next es
  | 0, h, _ => by omega
  | p + 1, h, hp => by
    by_cases e : kb = p
    · subst e
      exact ⟨[], (C.born kb (by omega) hw hc).2.2.2.2⟩
    · obtain ⟨es, ih⟩ := L_after hw hc p (by omega) (by omega)
      by_cases hq : C.want p = true ∧ (clsL lt (C.o p) = .born ∨ clsL lt (C.o p) = .late)
      · obtain ⟨hw', hc' | hc'⟩ := hq
        · have := (C.born p (by omega) hw' hc').2.2.2.1
          rw [ih] at this; cases this
        · obtain ⟨_, _, M, mo, ky, x, el, β', es', _, _, _, h4, _, h6⟩ := C.late p (by omega) hw' hc'
          rw [ih] at h4; injection h4 with h4 h4'
          exact ⟨_, by rw [h6, ← h4]⟩
      · exact ⟨es, by rw [C.Lst p (by omega) (fun hw => ⟨fun hc => hq ⟨hw, .inl hc⟩, fun hc => hq ⟨hw, .inr hc⟩⟩)]; exact ih⟩
omit [LoopTab] in
theorem born_one {k k' : Nat} (hk : k < C.n) (hk' : k' < C.n) (hw : C.want k = true) (hc : clsL lt (C.o k) = .born) (hw' : C.want k' = true) (hc' : clsL lt (C.o k') = .born) : k = k' := by
  rcases Nat.lt_trichotomy k k' with h | h | h
  · obtain ⟨es, h1⟩ := C.L_after hw hc k' h (by omega)
    have := (C.born k' hk' hw' hc').2.2.2.1
    rw [h1] at this; cases this
  · exact h
  · obtain ⟨es, h1⟩ := C.L_after hw' hc' k h (by omega)
    have := (C.born k hk hw hc).2.2.2.1
    rw [h1] at this; cases this
omit [LoopTab] in
/-- A late place that is executed: the map is made. -/
theorem late_born {p k : Nat} (hp : C.IsLate p) (hk : k < C.n) (hw : C.want k = true) (hc : clsL lt (C.o k) = .born) : k < p ∧ C.Needs p k := by
  obtain ⟨hpn, hpw, hpc⟩ := hp
  obtain ⟨_, _, M, mo, ky, x, el, β', es', _, _, _, h4, _, h6⟩ := C.late p hpn hpw hpc
  obtain ⟨kb, g1, g2, g3, g4⟩ := C.L_some p (by omega) _ _ h4
  obtain rfl := C.born_one hk (by omega) hw hc g2 g3
  exact ⟨g1, C.lates p k hpn g1 hpc hc⟩

section
variable {C}
theorem LateOK.keep {w₀ w w' : World} {S S' : Nat → Prop} {m m' β : Nat} {σ σ' : Rho} (h : C.LateOK w₀ S m σ w β) (hle : σ.le σ')
    (hk : ∀ b, b < w.heap.size → (∀ β' x l, C.G S m β' x → x.seen = true → σ β' = some l → l.1 ≠ b) → w'.heap[b]? = w.heap[b]? ∧ ∀ β' x l, C.G S' m' β' x → x.seen = true → σ' β' = some l → l.1 ≠ b)
    (hS : ∀ p, C.IsLate p → (S' p ↔ S p)) : C.LateOK w₀ S' m' σ' w' β := by
  obtain ⟨b, es, q, h1, h2, h3, h4, h5, h6, h7⟩ := h
  obtain ⟨k1, k2⟩ := hk b (Array.getElem?_eq_some_iff.1 h3).1 h4
  exact ⟨b, es, q, hle _ _ h1, h2, k1.trans h3, k2, h5, fun p => by rw [h6]; exact ⟨fun ⟨a, b⟩ => ⟨a, (hS p a).2 b⟩, fun ⟨a, b⟩ => ⟨a, (hS p a).1 b⟩⟩, LEnts.mono (C := C) hle h7⟩

variable {ρ₀ : Rho} {w₀ : World} {a₀ : Act} {S : Nat → Prop} {σ : Rho} {a : Act} {w : World} {m : Nat}

/-- What is not pure is not behind the front. -/
theorem Inv.front_le (h : C.Inv ρ₀ w₀ a₀ S σ a w m) (hc : C.Closed S) {k : Nat} (hk : k < C.n) (hn : ¬ S k) (hp : clsL lt (C.o k) ≠ .pure) : m ≤ k := by
  rcases h.front with h0 | ⟨q, h1, h2, h3, h4⟩
  · omega
  · by_cases hq : k < q
    · exact absurd (C.need h2 hq (C.heavies q k h2 hq h3 hp) hc (hc q h2 h4)) hn
    · by_cases e : k = q
      · subst e; exact absurd h4 hn
      · omega

/-- The heap at a place, as far as it is made of what is executed. -/
theorem Inv.upto (h : C.Inv ρ₀ w₀ a₀ S σ a w m) : ∀ k, m ≤ k → k ≤ C.n → (∀ p, m ≤ p → p < k → clsL lt (C.o p) ≠ .heavy ∧ (IsAl (clsL lt (C.o p)) → S p)) →
    (∀ β x, (C.H k).get β = some x → C.G S m β x) ∧ (∀ β x, (C.H k).get β = some x → β < (C.H k).next)
  | 0, hm, _, _ => by
    have : m = 0 := by omega
    subst this
    exact ⟨fun β x hx => .inl hx, h.top⟩
  | k + 1, hm, hk, hp => by
    by_cases e : m = k + 1
    · subst e; exact ⟨fun β x hx => .inl hx, h.top⟩
    · obtain ⟨i1, i2⟩ := Inv.upto h k (by omega) (by omega) fun p h1 h2 => hp p h1 (by omega)
      have same : C.H (k + 1) = C.H k → (∀ β x, (C.H (k + 1)).get β = some x → C.G S m β x) ∧ (∀ β x, (C.H (k + 1)).get β = some x → β < (C.H (k + 1)).next) := fun e => by rw [e]; exact ⟨i1, i2⟩
      cases hw : C.want k with
      | false => exact same (C.un k hk hw).2
      | true =>
        cases hcl : clsL lt (C.o k) with
        | pure => exact same (C.pure k hk hw hcl).2
        | read => exact same (C.read k hk hw hcl).1
        | heavy => exact absurd hcl (hp k (by omega) (Nat.lt_succ_self k)).1
        | late => exact same (C.late k hk hw hcl).1
        | born =>
          obtain ⟨_, _, h3, _⟩ := C.born k hk hw hcl
          have hS := (hp k (by omega) (Nat.lt_succ_self k)).2 (.inr hcl)
          refine ⟨fun β x hx => ?_, fun β x hx => ?_⟩
          · have hx' := hx
            rw [h3, AH.get_push] at hx
            split at hx
            · rename_i e1
              exact .inr ⟨k, hk, hS, by omega, hw, .inr hcl, e1, hx'⟩
            · exact i1 β x hx
          · rw [h3, AH.get_push] at hx
            rw [h3, AH.next_push]
            split at hx
            · omega
            · have := i2 β x hx; omega
        | alloc =>
          obtain ⟨nv, x0, h1, h2, h3⟩ := C.alloc k hk hw hcl
          have hS := (hp k (by omega) (Nat.lt_succ_self k)).2 (.inl hcl)
          refine ⟨fun β x hx => ?_, fun β x hx => ?_⟩
          · have hx' := hx
            rw [h3, AH.get_push] at hx
            split at hx
            · rename_i e1
              exact .inr ⟨k, hk, hS, by omega, hw, .inl hcl, e1, hx'⟩
            · exact i1 β x hx
          · rw [h3, AH.get_push] at hx
            rw [h3, AH.next_push]
            split at hx
            · omega
            · have := i2 β x hx; omega

/-- Before a ready place that is not executed: every heavy operation before it that it needs is executed, so the heap up to it is made of what is executed (for a heavy one). -/
theorem Inv.upto_heavy (h : C.Inv ρ₀ w₀ a₀ S σ a w m) (hc : C.Closed S) {k : Nat} (hk : k < C.n) (hr : C.Ready S k) (hcl : clsL lt (C.o k) = .heavy) (hmk : m ≤ k) :
    (∀ β x, (C.H k).get β = some x → C.G S m β x) ∧ (∀ β x, (C.H k).get β = some x → β < (C.H k).next) :=
  Inv.upto h k hmk (by omega) fun p h1 h2 => by
    have hS : clsL lt (C.o p) ≠ .pure → S p := fun hp => C.need hk h2 (C.heavies k p hk h2 hcl hp) hc hr
    refine ⟨fun hh => ?_, fun ha => hS (by rcases ha with ha | ha <;> (rw [ha]; exact fun h => by cases h))⟩
    have := h.last p (by omega) (hS (by rw [hh]; exact fun h => by cases h)) hh
    omega

/-- A read that is ready sees what it saw. -/
theorem Inv.seen (h : C.Inv ρ₀ w₀ a₀ S σ a w m) (hc : C.Closed S) {k : Nat} (hk : k < C.n) (hn : ¬ S k) (hr : C.Ready S k) (hcl : clsL lt (C.o k) = .read) (hw : C.want k = true) :
    readA P (C.o k).op (C.e k) (C.H m) = some (C.v k) := by
  have hmk := h.front_le hc hk hn (by rw [hcl]; exact fun h => by cases h)
  obtain ⟨_, hrd⟩ := C.read k hk hw hcl
  have hb : C.cnt k - C.cnt m ≤ C.b k := by
    have hmono := C.cnt_mono hmk (by omega)
    by_cases hlt : C.cnt m < C.cnt k
    · obtain ⟨p, p1, p2, p3, p4⟩ := C.first_heavy hmk (by omega) hlt
      by_cases hle : C.cnt k - C.cnt m ≤ C.b k
      · exact hle
      · have hS := C.need hk p2 (C.reads k p hk p2 hcl p3 (by omega)) hc hr
        have := h.last p (by omega) hS p3
        omega
    · omega
  obtain ⟨A, h1, h2⟩ := hrd _ hb
  rw [C.hs_get hmk (by omega) (Front.of C h.front)] at h1
  injection h1 with h1
  rw [h1]; exact h2

theorem Inv.operands (h : C.Inv ρ₀ w₀ a₀ S σ a w m) (hc : C.Closed S) {k : Nat} (hk : k < C.n) (hn : ¬ S k) (hr : C.Ready S k) :
    ∀ x ∈ (C.o k).op.operands, VR σ (opnd x (C.e k)) (a.eval x) := by
  intro x hx
  refine opnd_sound fun t ht => ?_
  subst ht
  rw [← C.looks_slot hk hn hc hr (t := t) ?_]
  · exact h.slots t
  · simp only [Oper.looksAt, List.mem_append, List.mem_filterMap]
    exact .inl ⟨.tmp t, by simpa using hx, rfl⟩

theorem Inv.wants (h : C.Inv ρ₀ w₀ a₀ S σ a w m) (hc : C.Closed S) {k : Nat} (hk : k < C.n) (hn : ¬ S k) (hr : C.Ready S k) :
    Region.wanted (C.o k) (yielded ops a.tmps) = C.want k := by
  have hw := C.wanted k hk
  unfold wantedA at hw
  unfold Region.wanted
  cases hg : (C.o k).guard with
  | none => rw [hg] at hw; injection hw
  | some g =>
    obtain ⟨j, want⟩ := g
    rw [hg] at hw
    simp only at hw ⊢
    cases hd : (ops[j]?).bind (·.dst) with
    | none => rw [hd] at hw; cases hw
    | some d =>
      rw [hd] at hw
      simp only at hw
      have hlook : d ∈ (C.o k).looksAt ops := by
        simp only [Oper.looksAt, hg, List.mem_append]
        right; rw [hd]; exact List.mem_singleton.2 rfl
      have hv := h.slots d
      rw [C.looks_slot hk hn hc hr hlook] at hv
      have he : a.eval (.tmp d) = a.tmps.getD d undef := rfl
      unfold yielded
      rw [hd]
      simp only [Option.bind_some]
      split at hw
      · rename_i b hb
        rw [hb] at hv
        have hv : a.eval (.tmp d) = .bool b := hv
        rw [he, Array.getD_eq_getD_getElem?] at hv
        cases hq : a.tmps[d]? with
        | none => rw [hq] at hv; cases hv
        | some y =>
          rw [hq] at hv
          have : y = .bool b := hv
          subst this
          have hw := Option.some.inj hw
          exact hw
      · rename_i hb
        rw [hb] at hv
        obtain ⟨c, hv, hc'⟩ := hv
        have hnil : c = #[] := by
          apply Array.ext'
          cases hl : c.toList with
          | nil => rfl
          | cons y l => rw [hl] at hc'; exact hc'.elim
        subst hnil
        rw [he, Array.getD_eq_getD_getElem?] at hv
        injection hw with hw
        rw [← hw]
        cases hq : a.tmps[d]? with
        | none => rfl
        | some y =>
          rw [hq] at hv
          have : y = .tuple #[] := hv
          subst this
          rfl
      · cases hw
end
end Canon
end Go.Ab

namespace Go.Ab
open Go
variable {P : Program} [LoopTab]

theorem eval_put {a : Act} {d : Option Nat} {v : Value} (h : ∀ t, d = some t → t < a.tmps.size) (t : Nat) : (a.put d v).eval (.tmp t) = if d = some t then v else a.eval (.tmp t) := by
  cases d with
  | none => rfl
  | some d =>
    have hd := h d rfl
    show (a.tmps.setIfInBounds d v).getD t undef = _
    rw [Array.getD_eq_getD_getElem?, Array.getElem?_setIfInBounds]
    by_cases e : d = t
    · subst e; simp [hd]
    · have : ¬ (some d = some t) := fun h => e (Option.some.inj h)
      simp only [e, if_false, this]
      show _ = a.tmps.getD t undef
      rw [Array.getD_eq_getD_getElem?]
theorem size_put (a : Act) (d : Option Nat) (v : Value) : (a.put d v).tmps.size = a.tmps.size := by cases d <;> simp [Act.put]
theorem defers_put (a : Act) (d : Option Nat) (v : Value) : (a.put d v).defers = a.defers := by cases d <;> rfl

namespace Canon
variable {ops : Array Oper} {lt : Option Nat} {s : Self} {C : Canon P ops lt s}
variable {ρ₀ : Rho} {w₀ : World} {a₀ : Act} {S : Nat → Prop} {σ : Rho} {a : Act} {w : World} {m : Nat}

theorem Inv.slots' (h : C.Inv ρ₀ w₀ a₀ S σ a w m) (hc : C.Closed S) {k : Nat} (hk : k < C.n) (hn : ¬ S k) (hd : ∀ t, (C.o k).dst = some t → t < a₀.tmps.size) {σ' : Rho} {val : Value} (hle : σ.le σ') (hv : VR σ' (C.v k) val) :
    ∀ t, VR σ' ((C.env (fun q => S q ∨ q = k) C.n).get t) ((a.put (C.o k).dst val).eval (.tmp t)) := by
  intro t
  rw [eval_put (fun t ht => by rw [h.tsz]; exact hd t ht), C.put_slot hk hn hc]
  show VR σ' (if (C.o k).dst = some t then _ else _) _
  split
  · exact hv
  · exact VR.mono hle _ _ (h.slots t)

/-- A place that changes no heap, and is not heavy. -/
theorem Inv.still (h : C.Inv ρ₀ w₀ a₀ S σ a w m) (hc : C.Closed S) {k : Nat} (hk : k < C.n) (hn : ¬ S k) (hd : ∀ t, (C.o k).dst = some t → t < a₀.tmps.size) (hH : C.H (k + 1) = C.H k) (hnh : clsL lt (C.o k) ≠ .heavy) (hnl : ¬ C.IsLate k) {val : Value} (hv : VR σ (C.v k) val) :
    C.Inv ρ₀ w₀ a₀ (fun q => S q ∨ q = k) σ (a.put (C.o k).dst val) w m := by
  have hG : ∀ β x, C.G (fun q => S q ∨ q = k) m β x → C.G S m β x := by
    intro β x hx
    rcases hx with hx | ⟨p, p1, p2, p3, p4, p5, p6, p7⟩
    · exact .inl hx
    · rcases p2 with p2 | p2
      · exact .inr ⟨p, p1, p2, p3, p4, p5, p6, p7⟩
      · subst p2
        have e1 : (C.H (p + 1)).next = (C.H p).next + 1 := by
          rcases p5 with p5 | p5
          · obtain ⟨nv, x0, _, _, h3⟩ := C.alloc p p1 p4 p5
            rw [h3]; rfl
          · rw [(C.born p p1 p4 p5).2.2.1]; rfl
        rw [hH] at e1
        omega
  exact {
    mle := h.mle
    front := h.front.imp id fun ⟨q, h1, h2, h3, h4⟩ => ⟨q, h1, h2, h3, .inl h4⟩
    last := fun p hp hS hh => by
      rcases hS with hS | hS
      · exact h.last p hp hS hh
      · subst hS; exact absurd hh hnh
    hr := h.hr.sub hG
    top := h.top
    fresh := fun p hp hS β h1 h2 => h.fresh p hp (fun q => hS (.inl q)) β h1 h2
    slots := h.slots' hc hk hn hd (fun _ _ h => h) hv
    le := h.le
    win := h.win
    size := h.size
    same := h.same
    img := fun k β x l h1 => h.img k β x l (hG _ _ h1)
    os := h.os
    output := h.output
    tape := h.tape
    lat := fun kb h1 h2 h3 h4 => by
      rcases h2 with h2 | h2
      · exact (h.lat kb h1 h2 h3 h4).keep (fun _ _ h => h) (fun b _ hb => ⟨rfl, fun β' x l g1 => hb β' x l (hG _ _ g1)⟩) (fun p hp => ⟨fun hS => hS.resolve_right (fun e => hnl (e ▸ hp)), .inl⟩)
      · subst h2
        have e1 : (C.H (kb + 1)).next = (C.H kb).next + 1 := by rw [(C.born kb h1 h3 h4).2.2.1]; rfl
        rw [hH] at e1
        omega
    defers := (defers_put _ _ _).trans h.defers
    tsz := (size_put _ _ _).trans h.tsz }

/-- A heavy place that is not carried out. -/
theorem Inv.stillHeavy (h : C.Inv ρ₀ w₀ a₀ S σ a w m) (hc : C.Closed S) {k : Nat} (hk : k < C.n) (hn : ¬ S k) (hr : C.Ready S k) (hd : ∀ t, (C.o k).dst = some t → t < a₀.tmps.size) (hH : C.H (k + 1) = C.H k) (hh : clsL lt (C.o k) = .heavy) {val : Value} (hv : VR σ (C.v k) val) :
    C.Inv ρ₀ w₀ a₀ (fun q => S q ∨ q = k) σ (a.put (C.o k).dst val) w (k + 1) := by
  have hmk := h.front_le hc hk hn (by rw [hh]; exact fun h => by cases h)
  obtain ⟨u1, u2⟩ := h.upto_heavy hc hk hr hh hmk
  have hG : ∀ β x, C.G (fun q => S q ∨ q = k) (k + 1) β x → C.G S m β x := by
    intro β x hx
    rcases hx with hx | ⟨p, p1, p2, p3, p4, p5, p6, p7⟩
    · rw [hH] at hx; exact u1 β x hx
    · rcases p2 with p2 | p2
      · exact .inr ⟨p, p1, p2, by omega, p4, p5, p6, p7⟩
      · omega
  exact {
    mle := hk
    front := .inr ⟨k, rfl, hk, hh, .inr rfl⟩
    last := fun p hp hS hh => by
      rcases hS with hS | hS
      · have := h.last p hp hS hh; omega
      · omega
    hr := h.hr.sub hG
    top := by rw [hH]; exact u2
    fresh := fun p hp hS β h1 h2 => h.fresh p hp (fun q => hS (.inl q)) β h1 h2
    slots := h.slots' hc hk hn hd (fun _ _ h => h) hv
    le := h.le
    win := h.win
    size := h.size
    same := h.same
    img := fun k β x l h1 => h.img k β x l (hG _ _ h1)
    os := h.os
    output := h.output
    tape := h.tape
    lat := fun kb h1 h2 h3 h4 => by
      rcases h2 with h2 | h2
      · exact (h.lat kb h1 h2 h3 h4).keep (fun _ _ h => h) (fun b _ hb => ⟨rfl, fun β' x l g1 => hb β' x l (hG _ _ g1)⟩) (fun p hp => ⟨fun hS => hS.resolve_right (fun e => by have := hp.2.2; rw [e, hh] at this; cases this), .inl⟩)
      · subst h2; rw [hh] at h4; cases h4
    defers := (defers_put _ _ _).trans h.defers
    tsz := (size_put _ _ _).trans h.tsz }

/-- A heavy place, carried out. -/
theorem Inv.stepHeavy (hs : CallsOK P s) (h : C.Inv ρ₀ w₀ a₀ S σ a w m) (hc : C.Closed S) {k : Nat} (hk : k < C.n) (hn : ¬ S k) (hr : C.Ready S k) (hd : ∀ t, (C.o k).dst = some t → t < a₀.tmps.size) (hh : clsL lt (C.o k) = .heavy) {σ' : Rho} {w' : World} {val : Value}
    (hst : Step (C.H k) σ w (C.H (k + 1)) σ' w') (hv : VR σ' (C.v k) val) : C.Inv ρ₀ w₀ a₀ (fun q => S q ∨ q = k) σ' (a.put (C.o k).dst val) w' (k + 1) := by
  have hmk := h.front_le hc hk hn (by rw [hh]; exact fun h => by cases h)
  obtain ⟨u1, u2⟩ := h.upto_heavy hc hk hr hh hmk
  let D : Nat → AObj → Prop := fun β x => ∃ p, p < C.n ∧ S p ∧ k + 1 ≤ p ∧ C.want p = true ∧ IsAl (clsL lt (C.o p)) ∧ β = (C.H p).next ∧ (C.H (p + 1)).get β = some x
  have hD : ∀ β x, D β x → C.G S m β x ∧ (C.H k).get β = none ∧ (β < (C.H k).next ∨ (C.H (k + 1)).next ≤ β) := by
    rintro β x ⟨p, p1, p2, p3, p4, p5, p6, p7⟩
    have hm1 := C.mono' hs (show k ≤ p by omega) (by omega)
    have hm2 := C.mono' hs (show k + 1 ≤ p by omega) (by omega)
    refine ⟨.inr ⟨p, p1, p2, by omega, p4, p5, p6, p7⟩, ?_, .inr (by omega)⟩
    cases hq : (C.H k).get β with
    | none => rfl
    | some y => have := u2 β y hq; omega
  have hstep := HRr.step h.hr u1 hst hD
  have hG : ∀ β x, C.G (fun q => S q ∨ q = k) (k + 1) β x → (C.H (k + 1)).get β = some x ∨ D β x := by
    intro β x hx
    rcases hx with hx | ⟨p, p1, p2, p3, p4, p5, p6, p7⟩
    · exact .inl hx
    · rcases p2 with p2 | p2
      · exact .inr ⟨p, p1, p2, p3, p4, p5, p6, p7⟩
      · omega
  exact {
    mle := hk
    front := .inr ⟨k, rfl, hk, hh, .inr rfl⟩
    last := fun p hp hS hh => by
      rcases hS with hS | hS
      · have := h.last p hp hS hh; omega
      · omega
    hr := hstep.sub hG
    top := hst.hr.top
    fresh := fun p hp hS β h1 h2 => by
      have hne : p ≠ k := fun e => hS (.inr e)
      rw [hst.win β ?_]
      · exact h.fresh p hp (fun q => hS (.inl q)) β h1 h2
      · by_cases hlt : p < k
        · have := C.mono' hs (show p + 1 ≤ k by omega) (by omega)
          omega
        · have := C.mono' hs (show k + 1 ≤ p by omega) (by omega)
          omega
    slots := h.slots' hc hk hn hd hst.le hv
    le := fun β x hx => hst.le _ _ (h.le _ _ hx)
    win := fun β hβ => by
      have h1 := C.mono' hs (show 0 ≤ k by omega) (by omega)
      have h2 := C.mono' hs (show k + 1 ≤ C.n by omega) (Nat.le_refl _)
      rw [hst.win β (by omega), h.win β hβ]
    size := Nat.le_trans h.size hst.size
    same := fun b hb hno => by
      rw [hst.same b (Nat.lt_of_lt_of_le hb h.size) ?_, h.same b hb hno]
      intro β x l h1 h2 h3 e
      obtain ⟨β₀, x₀, l₀, g1, g2, g3, g4⟩ := h.img true β x l (u1 _ _ h1) h2 h3 (e ▸ hb)
      exact hno β₀ x₀ l₀ g1 g2 g3 (g4.trans e)
    img := fun q β x l h1 h2 h3 h4 => by
      rcases hG β x h1 with h1 | h1
      · obtain ⟨β₁, x₁, l₁, g1, g2, g3, g4⟩ := hst.img q β x l h1 h2 h3 (Nat.lt_of_lt_of_le h4 h.size)
        obtain ⟨β₀, x₀, l₀, f1, f2, f3, f4⟩ := h.img q β₁ x₁ l₁ (u1 _ _ g1) g2 g3 (g4 ▸ h4)
        exact ⟨β₀, x₀, l₀, f1, f2, f3, f4.trans g4⟩
      · obtain ⟨a1, a2, a3⟩ := hD β x h1
        obtain ⟨b, base, sz, g1, _⟩ := h.hr.obj β x a1
        have e := hst.le _ _ g1
        rw [h3] at e; injection e with e; subst e
        exact h.img q β x _ a1 h2 g1 h4
    os := hst.os.trans h.os
    output := hst.output.trans h.output
    tape := hst.tape.trans h.tape
    lat := fun kb h1 h2 h3 h4 => by
      rcases h2 with h2 | h2
      · refine (h.lat kb h1 h2 h3 h4).keep hst.le (fun b hb hno => ⟨hst.same b hb fun β x l g1 g2 => hno β x l (u1 _ _ g1) (AObj.live_seen g2), fun β' x l g1 g2 g3 e => ?_⟩) (fun p hp => ⟨fun hS => hS.resolve_right (fun e => by have := hp.2.2; rw [e, hh] at this; cases this), .inl⟩)
        rcases hG β' x g1 with g1 | g1
        · obtain ⟨β₁, x₁, l₁, f1, f2, f3, f4⟩ := hst.img false β' x l g1 g2 g3 (e ▸ hb)
          exact hno β₁ x₁ l₁ (u1 _ _ f1) f2 f3 (f4.trans e)
        · obtain ⟨a1, a2, a3⟩ := hD β' x g1
          obtain ⟨b', base, sz, f1, _⟩ := h.hr.obj β' x a1
          have e' := hst.le _ _ f1
          rw [g3] at e'; injection e' with e'; subst e'
          exact hno β' x _ a1 g2 f1 e
      · subst h2; rw [hh] at h4; cases h4
    defers := (defers_put _ _ _).trans h.defers
    tsz := (size_put _ _ _).trans h.tsz }

/-- A new block. -/
theorem Inv.stepAlloc (hs : CallsOK P s) (h : C.Inv ρ₀ w₀ a₀ S σ a w m) (hc : C.Closed S) {k : Nat} (hk : k < C.n) (hn : ¬ S k) (hd : ∀ t, (C.o k).dst = some t → t < a₀.tmps.size) (hcl : IsAl (clsL lt (C.o k))) (hw : C.want k = true)
    {nv : NV} {x : AObj} (hv : C.v k = nv.at (C.H k).next) (hH : C.H (k + 1) = (C.H k).push x) {val : Value} {obj : Obj} {sz : Nat}
    (hal : ∀ (β : Nat) (ρ' : Rho), σ.le ρ' → ρ' β = some (w.heap.size, 0, sz) → OR ρ' (w.alloc obj) w.heap.size 0 sz x ∧ VR ρ' (nv.at β) val) (hbo : clsL lt (C.o k) = .born → obj = .map #[] 0 ∧ sz = 0 ∧ x = .dead) :
    C.Inv ρ₀ w₀ a₀ (fun q => S q ∨ q = k) (σ.add (C.H k).next (w.heap.size, 0, sz)) (a.put (C.o k).dst val) (w.alloc obj) m := by
  have hmk := h.front_le hc hk hn (by rcases hcl with hcl | hcl <;> (rw [hcl]; exact fun h => by cases h))
  have hnext : (C.H (k + 1)).next = (C.H k).next + 1 := by rw [hH]; rfl
  have hfree : σ (C.H k).next = none := h.fresh k hk hn _ (Nat.le_refl _) (by omega)
  have hle : σ.le (σ.add (C.H k).next (w.heap.size, 0, sz)) := Rho.le_add hfree
  obtain ⟨o1, o2⟩ := hal (C.H k).next _ hle (Rho.add_same _ _ _)
  have hG : ∀ β y, C.G (fun q => S q ∨ q = k) m β y → (C.G S m β y ∧ β ≠ (C.H k).next) ∨ (β = (C.H k).next ∧ y = x) := by
    intro β y hy
    have old : C.G S m β y → (C.G S m β y ∧ β ≠ (C.H k).next) := fun hg => ⟨hg, fun e => by
      obtain ⟨b, base, sz', g1, _⟩ := h.hr.obj β y hg
      rw [e, hfree] at g1; cases g1⟩
    rcases hy with hy | ⟨p, p1, p2, p3, p4, p5, p6, p7⟩
    · exact .inl (old (.inl hy))
    · rcases p2 with p2 | p2
      · exact .inl (old (.inr ⟨p, p1, p2, p3, p4, p5, p6, p7⟩))
      · subst p2
        right
        refine ⟨p6, ?_⟩
        rw [hH, AH.get_push, if_pos p6] at p7
        injection p7 with p7; exact p7.symm
  exact {
    mle := h.mle
    front := h.front.imp id fun ⟨q, h1, h2, h3, h4⟩ => ⟨q, h1, h2, h3, .inl h4⟩
    last := fun p hp hS hh => by
      rcases hS with hS | hS
      · exact h.last p hp hS hh
      · subst hS; rcases hcl with hcl | hcl <;> (rw [hcl] at hh; cases hh)
    hr := by
      refine ⟨fun β y hy => ?_, fun β β' y y' l l' h1 h2 h3 h4 h5 h6 h7 => ?_⟩
      · rcases hG β y hy with ⟨hy, hne⟩ | ⟨e1, e2⟩
        · obtain ⟨b, base, sz', g1, g2⟩ := h.hr.obj β y hy
          refine ⟨b, base, sz', hle _ _ g1, ?_⟩
          by_cases hl : y.seen = true
          · exact g2.congr hle (by rw [blk_size]; omega) (blk_old _ _ (g2.lt hl))
          · cases y <;> first | exact trivial | exact absurd rfl hl
        · subst e1; subst e2
          exact ⟨_, _, _, Rho.add_same _ _ _, o1⟩
      · have oldlt : ∀ β y l, C.G S m β y → β ≠ (C.H k).next → y.seen = true → (σ.add (C.H k).next (w.heap.size, 0, sz)) β = some l → σ β = some l ∧ l.1 < w.heap.size := by
          intro β y l g1 g2 g3 g4
          rw [Rho.add_ne g2] at g4
          obtain ⟨b, base, sz', f1, f2⟩ := h.hr.obj β y g1
          rw [f1] at g4; injection g4 with g4; subst g4
          exact ⟨f1, f2.lt g3⟩
        rcases hG β y h1 with ⟨h1, n1⟩ | ⟨e1, e1'⟩ <;> rcases hG β' y' h2 with ⟨h2, n2⟩ | ⟨e2, e2'⟩
        · exact h.hr.inj β β' y y' l l' h1 h2 h3 h4 h5 (oldlt _ _ _ h1 n1 (AObj.live_seen h3) h6).1 (oldlt _ _ _ h2 n2 h4 h7).1
        · subst e2
          rw [Rho.add_same] at h7; injection h7 with h7; subst h7
          have := (oldlt _ _ _ h1 n1 (AObj.live_seen h3) h6).2
          exact fun e => by simp only at e; omega
        · subst e1
          rw [Rho.add_same] at h6; injection h6 with h6; subst h6
          have := (oldlt _ _ _ h2 n2 h4 h7).2
          exact fun e => by simp only at e; omega
        · omega
    top := h.top
    fresh := fun p hp hS β h1 h2 => by
      have hne : p ≠ k := fun e => hS (.inr e)
      rw [Rho.add_ne ?_]
      · exact h.fresh p hp (fun q => hS (.inl q)) β h1 h2
      · by_cases hlt : p < k
        · have := C.mono' hs (show p + 1 ≤ k by omega) (by omega)
          omega
        · have := C.mono' hs (show k + 1 ≤ p by omega) (by omega)
          omega
    slots := h.slots' hc hk hn hd hle (by rw [hv]; exact o2)
    le := fun β y hy => hle _ _ (h.le _ _ hy)
    win := fun β hβ => by
      have h1 := C.mono' hs (show 0 ≤ k by omega) (by omega)
      have h2 := C.mono' hs (show k + 1 ≤ C.n by omega) (Nat.le_refl _)
      rw [Rho.add_ne (by omega), h.win β hβ]
    size := by rw [blk_size]; exact Nat.le_succ_of_le h.size
    same := fun b hb hno => by rw [blk_old _ _ (Nat.lt_of_lt_of_le hb h.size), h.same b hb hno]
    img := fun q β y l h1 h2 h3 h4 => by
      rcases hG β y h1 with ⟨h1, n1⟩ | ⟨e1, e2⟩
      · rw [Rho.add_ne n1] at h3
        exact h.img q β y l h1 h2 h3 h4
      · subst e1
        rw [Rho.add_same] at h3; injection h3 with h3; subst h3
        have := h.size
        simp only at h4; omega
    os := h.os
    output := h.output
    tape := h.tape
    lat := fun kb h1 h2 h3 h4 => by
      have hnl : ∀ p, C.IsLate p → p ≠ k := fun p hp e => by
        have := hp.2.2
        rcases hcl with hcl | hcl <;> (rw [e, hcl] at this; cases this)
      rcases h2 with h2 | h2
      · refine (h.lat kb h1 h2 h3 h4).keep hle (fun b hb hno => ⟨blk_old _ _ hb, fun β' y l g1 g2 g3 e => ?_⟩) (fun p hp => ⟨fun hS => hS.resolve_right (hnl p hp), .inl⟩)
        rcases hG β' y g1 with ⟨g1, n1⟩ | ⟨e1, e2⟩
        · rw [Rho.add_ne n1] at g3
          exact hno β' y l g1 g2 g3 e
        · subst e1
          rw [Rho.add_same] at g3; injection g3 with g3; subst g3
          simp only at e; omega
      · subst h2
        obtain ⟨rfl, rfl, hx⟩ := hbo h4
        refine ⟨w.heap.size, #[], [], Rho.add_same _ _ _, h.size, blk_new _ _, fun β' y l g1 g2 g3 e => ?_, List.nodup_nil, fun p => ?_, trivial⟩
        · rcases hG β' y g1 with ⟨g1, n1⟩ | ⟨e1, e2⟩
          · rw [Rho.add_ne n1] at g3
            obtain ⟨b', base', sz', f1, f2⟩ := h.hr.obj β' y g1
            rw [f1] at g3; injection g3 with g3; subst g3
            have := f2.lt g2
            simp only at e; omega
          · rw [e2, hx] at g2; cases g2
        · simp only [List.not_mem_nil, false_iff]
          rintro ⟨hp, hS⟩
          obtain ⟨q1, q2⟩ := C.late_born hp h1 h3 h4
          rcases hS with hS | hS
          · exact hn (C.need hp.1 q1 q2 hc (hc p hp.1 hS))
          · omega
    defers := (defers_put _ _ _).trans h.defers
    tsz := (size_put _ _ _).trans h.tsz }

/-- An entry of the map whose entries come in any order. -/
theorem Inv.stepLate (h : C.Inv ρ₀ w₀ a₀ S σ a w m) (hc : C.Closed S) {k : Nat} (hk : k < C.n) (hn : ¬ S k) (hr : C.Ready S k) (hd : ∀ t, (C.o k).dst = some t → t < a₀.tmps.size) (hcl : clsL lt (C.o k) = .late) (hw : C.want k = true) {val : Value} (hv : VR σ (C.v k) val)
    {b : Nat} {es : Array MapEntry} {kv xv : Value} {β : Nat} {es' : List (AV × AV)} (hL : C.L k = .some β es') (hb : σ β = some (b, 0, 0)) (hes : w.heap[b]? = some (.map es es.size)) (hkv : VR σ (C.lkey k) kv) (hxv : VR σ (C.lval k) xv) :
    C.Inv ρ₀ w₀ a₀ (fun q => S q ∨ q = k) σ (a.put (C.o k).dst val) { w with heap := w.heap.setIfInBounds b (.map (es.push { key := kv, val := xv, born := es.size }) (es.size + 1)) } m := by
  have hlate : C.IsLate k := ⟨hk, hw, hcl⟩
  have hH := (C.late k hk hw hcl).1
  obtain ⟨kb, kb1, kb2, kb3, kb4⟩ := C.L_some k (by omega) _ _ hL
  have hSb : S kb := C.need hk kb1 (C.lates k kb hk kb1 hcl kb3) hc hr
  have hbs := (Array.getElem?_eq_some_iff.1 hes).1
  obtain ⟨b', es'', q, l1, l2, l3, l4, l5, l6, l7⟩ := h.lat kb (by omega) hSb kb2 kb3
  rw [← kb4, hb] at l1; injection l1 with l1; simp at l1; subst l1
  rw [hes] at l3; injection l3 with l3; injection l3 with l3 l3'; subst l3
  have hG : ∀ β x, C.G (fun q => S q ∨ q = k) m β x → C.G S m β x := by
    intro β x hx
    rcases hx with hx | ⟨p, p1, p2, p3, p4, p5, p6, p7⟩
    · exact .inl hx
    · rcases p2 with p2 | p2
      · exact .inr ⟨p, p1, p2, p3, p4, p5, p6, p7⟩
      · subst p2; rcases p5 with p5 | p5 <;> (rw [hcl] at p5; cases p5)
  have hother : ∀ b', b' ≠ b → (w.heap.setIfInBounds b (.map (es.push { key := kv, val := xv, born := es.size }) (es.size + 1)))[b']? = w.heap[b']? := fun b' hne => by
    rw [Array.getElem?_setIfInBounds, if_neg (fun e => hne e.symm)]
  exact {
    mle := h.mle
    front := h.front.imp id fun ⟨q, h1, h2, h3, h4⟩ => ⟨q, h1, h2, h3, .inl h4⟩
    last := fun p hp hS hh => by
      rcases hS with hS | hS
      · exact h.last p hp hS hh
      · subst hS; rw [hcl] at hh; cases hh
    hr := by
      refine ⟨fun β x hx => ?_, (h.hr.sub hG).inj⟩
      obtain ⟨c, base, sz, g1, g2⟩ := h.hr.obj β x (hG _ _ hx)
      refine ⟨c, base, sz, g1, ?_⟩
      by_cases hl : x.seen = true
      · exact g2.congr (fun _ _ h => h) (by simp) (hother c (l4 β x _ (hG _ _ hx) hl g1))
      · cases x <;> first | exact trivial | exact absurd rfl hl
    top := h.top
    fresh := fun p hp hS β h1 h2 => h.fresh p hp (fun q => hS (.inl q)) β h1 h2
    slots := h.slots' hc hk hn hd (fun _ _ h => h) hv
    le := h.le
    win := h.win
    size := by simpa using h.size
    same := fun c hc' hno => (hother c (by omega)).trans (h.same c hc' hno)
    img := fun k β x l h1 => h.img k β x l (hG _ _ h1)
    os := h.os
    output := h.output
    tape := h.tape
    lat := fun kb' h1 h2 h3 h4 => by
      obtain rfl := C.born_one h1 (by omega) h3 h4 kb2 kb3
      refine ⟨b, es.push { key := kv, val := xv, born := es.size }, q ++ [k], by rw [← kb4]; exact hb, l2, by simp [hbs], fun β' x l g1 => l4 β' x l (hG _ _ g1), ?_, fun p => ?_, ?_⟩
      · refine List.nodup_append.2 ⟨l5, by simp, ?_⟩
        intro x hx y hy e
        rw [List.mem_singleton.1 hy] at e
        subst e
        exact hn ((l6 x).1 hx).2
      · rw [List.mem_append, l6, List.mem_singleton]
        constructor
        · rintro (⟨a, b⟩ | rfl)
          · exact ⟨a, .inl b⟩
          · exact ⟨hlate, .inr rfl⟩
        · rintro ⟨a, b | rfl⟩
          · exact .inl ⟨a, b⟩
          · exact .inr rfl
      · rw [Array.toList_push]
        exact LEnts.append (C := C) (m := { key := kv, val := xv, born := es.size }) hkv hxv (by simp) l7
    defers := (defers_put _ _ _).trans h.defers
    tsz := (size_put _ _ _).trans h.tsz }

end Canon
end Go.Ab

namespace Go.Ab
open Go
variable {P : Program} [LoopTab]

theorem readA_sound {A : AH} {ρ : Rho} {w : World} (hr : HR A ρ w) {o : Oper} {e : En} {ev : Operand → Value} (H : ∀ x ∈ o.op.operands, VR ρ (opnd x e) (ev x)) {r : AV} (h : readA P o.op e A = some r) :
    ∃ val, (execOp ev o).run P w = .ok (.value val) w ∧ VR ρ r val := by
  unfold readA at h
  split at h
  · rename_i v hv
    cases some_inj h
    exact light_sound H hv w
  · exact reads_sound hr H h

theorem readA_defer {op : Op} {e : En} {A : AH} {r : AV} (h : readA P op e A = some r) : ∀ c, op ≠ .defer c := by
  intro c hc
  subst hc
  cases h

theorem bornL_sound {ρ : Rho} {o : Oper} {e : En} {ev : Operand → Value} (H : ∀ x ∈ o.op.operands, VR ρ (opnd x e) (ev x)) (h : allocL o.op P e = some (.map, .map [] 0)) (w : World) :
    ∃ val obj sz, (execOp ev o).run P w = .ok (.value val) (w.alloc obj) ∧ (obj = .map #[] 0 ∧ sz = 0) ∧ ∀ (β : Nat) (ρ' : Rho), ρ' β = some (w.heap.size, 0, sz) → VR ρ' (.map β) val := by
  obtain ⟨dst, op, type, pos, after, guard⟩ := o
  have hop : ∃ T r, op = .makeMap T r := by
    cases op <;> simp only [allocL, reduceCtorEq] at h
    case makeMap T r => exact ⟨T, r, rfl⟩
    all_goals
      repeat' split at h
      all_goals first | (cases h; done) | (injection h with h; injection h with h1 h2; cases h1)
  obtain ⟨T, r, rfl⟩ := hop
  simp only [allocL] at h
  cases r with
  | some x => cases h
  | none =>
    refine ⟨.map (some w.heap.size), .map #[] 0, 0, ?_, ⟨rfl, rfl⟩, fun β ρ' hρ => ⟨_, _, _, hρ, rfl⟩⟩
    simp only [execOp]
    exact run_value _ _ _ _ (by simp [Instr.makeMap])

theorem wpIn_skip_op {F : Fence} {n : Nat} (hF : Free F) {o : Oper} {a : Act} {w w' : World} {K : Act → World → Prop} {Q : Exit → Act → World → Prop} (hd : ∀ c, o.op ≠ .defer c) (h : (execOp a.eval o).run P w = .ok .skip w') (hk : K (a.put o.dst undef) w') : o.wpIn F n P a w K Q := by
  refine ⟨fun f _ => hF.fn f, ?_⟩
  rw [semAt_eq _ hd, h]
  exact hk

theorem eqKey_comm {x y : AV} (h : eqKey x y = some false) : eqKey y x = some false := by
  unfold eqKey at h ⊢
  cases x <;> simp only [reduceCtorEq] at h
  case int k a =>
    cases y <;> simp only [reduceCtorEq] at h
    case int k' b =>
      split at h
      · rename_i e; subst e
        rw [intEq_eq] at h
        simp only [if_true]
        rw [intEq_eq]
        have := Option.some.inj h
        simp at this ⊢
        exact fun e => this e.symm
      · cases h
  case str a =>
    cases y <;> simp only [reduceCtorEq] at h
    case str b =>
      simp only
      rw [natsEq_eq] at h ⊢
      have := Option.some.inj h
      simp at this ⊢
      exact fun e => this e.symm
theorem freshKey_mem {k : AV} : ∀ {es : List (AV × AV)}, freshKey k es = true → ∀ x ∈ es, eqKey k x.1 = some false
  | [], _, x, hx => by cases hx
  | y :: es, h, x, hx => by
    simp only [freshKey] at h
    split at h
    · rename_i he
      rcases List.mem_cons.1 hx with rfl | hx
      · exact he
      · exact freshKey_mem h x hx
    · cases h

theorem insert_run {σ : Rho} {w : World} {b : Nat} {ms : Array MapEntry} {o : Oper} {a : Act} {M : TypeId} {mo ky x : Operand} {k : AV} {el : TypeId} (ho : o.op = .insert M mo ky x) (hkk : keyKind P M k = some el) (hk : VR σ k (a.eval ky)) (hm : a.eval mo = .map (some b)) (hes : w.heap[b]? = some (.map ms ms.size))
    (hf : ∀ m ∈ ms.toList, ∃ ck, VR σ ck m.key ∧ eqKey k ck = some false) :
    (execOp a.eval o).run P w = .ok .skip { w with heap := w.heap.setIfInBounds b (.map (ms.push { key := a.eval ky, val := a.eval x, born := ms.size }) (ms.size + 1)) } ∧ True := by
  obtain ⟨dst, op, type, pos, after, guard⟩ := o
  simp only at ho
  subst ho
  obtain ⟨kt, d, hu, hd, hkd⟩ := keyKind_some hkk
  have hgo : (getObj b).run P w = .ok (.map ms ms.size) w := by simp [getObj, Sem.run, hes]
  have hso : ∀ o, (setObj b o).run P w = .ok () { w with heap := w.heap.setIfInBounds b o } := fun o => by simp [setObj, Sem.run, hes]
  have hck := run_checkKey (P := P) hk hd hkd false w
  have hfn : Instr.findNow d (a.eval ky) ms.toList 0 = some none := by
    have hall : ∀ m ∈ ms.toList, Instr.sameNow d (a.eval ky) m.key = some false := fun m hm => by
      obtain ⟨ck, c1, c2⟩ := hf m hm
      obtain ⟨g1, g2⟩ := eqKey_sound hk c1 c2
      rcases hkd with ⟨⟨q, rfl⟩, e⟩ | ⟨rfl, e⟩
      · exact g1 q e
      · exact g2 e
    rcases findNow_any (d := d) (v := a.eval ky) ms.toList 0 (fun m hm => .inl (hall m hm)) with ⟨_, h⟩ | ⟨m, hm, h, _⟩
    · exact h
    · rw [hall m hm] at h; cases h
  refine ⟨?_, trivial⟩
  simp only [execOp]
  refine run_skip _ _ _ ?_
  rw [hm]
  simp only [Instr.mapUpdate, Sem.run_bind, run_underlying hu, Result.andThen_ok, hgo, hck, Instr.findKey, run_underlying hd, hfn, Sem.run_pure, hso]

namespace Canon
variable {ops : Array Oper} {lt : Option Nat} {s : Self} {C : Canon P ops lt s}
variable {ρ₀ : Rho} {w₀ : World} {a₀ : Act} {S : Nat → Prop} {σ : Rho} {a : Act} {w : World} {m : Nat}

theorem lents_fresh {k : AV} {q : List Nat} (hq : ∀ p ∈ q, eqKey k (C.lkey p) = some false) : ∀ {ms : List MapEntry} {i : Nat}, C.LEnts σ q ms i → ∀ m ∈ ms, ∃ ck, VR σ ck m.key ∧ eqKey k ck = some false := by
  induction q with
  | nil =>
    intro ms i h m hm
    cases ms with
    | nil => cases hm
    | cons => exact h.elim
  | cons p q ih =>
    intro ms i h m hm
    cases ms with
    | nil => cases hm
    | cons m' ms =>
      obtain ⟨h1, h2, h3, h4⟩ := h
      rcases List.mem_cons.1 hm with rfl | hm
      · exact ⟨_, h1, hq p List.mem_cons_self⟩
      · exact ih (fun p hp => hq p (List.mem_cons_of_mem _ hp)) h4 m hm
omit [LoopTab] in
theorem late_in {p : Nat} (hp : C.IsLate p) : ∀ k, p < k → k ≤ C.n → ∀ β es, C.L k = .some β es → (C.lkey p, C.lval p) ∈ es
  | 0, h, _, _, _, _ => by omega
  | k + 1, h, hk, β, es, hL => by
    by_cases e : p = k
    · subst e
      obtain ⟨_, _, M, mo, ky, x, el, β', es', e3, _, _, h4, _, h6⟩ := C.late p (by omega) hp.2.1 hp.2.2
      rw [h6] at hL; injection hL with h7 h8; subst h8
      simp only [lkey, lval, e3]
      exact List.mem_append_right _ List.mem_cons_self
    · by_cases hq : C.want k = true ∧ (clsL lt (C.o k) = .born ∨ clsL lt (C.o k) = .late)
      · obtain ⟨hw', hc' | hc'⟩ := hq
        · obtain ⟨_, _, M, mo, ky, x, el, β', es', _, _, _, h4, _, h6⟩ := C.late p (by omega) hp.2.1 hp.2.2
          obtain ⟨kb, g1, g2, g3, _⟩ := C.L_some p (by omega) _ _ h4
          obtain ⟨es1, h7⟩ := C.L_after g2 g3 k (by omega) (by omega)
          have := (C.born k (by omega) hw' hc').2.2.2.1
          rw [h7] at this; cases this
        · obtain ⟨_, _, M, mo, ky, x, el, β', es', _, _, _, h4, _, h6⟩ := C.late k (by omega) hw' hc'
          rw [h6] at hL; injection hL with h7 h8; subst h8
          exact List.mem_append_left _ (late_in hp k (by omega) (by omega) _ _ h4)
      · rw [C.Lst k (by omega) (fun hw => ⟨fun hc => hq ⟨hw, .inl hc⟩, fun hc => hq ⟨hw, .inr hc⟩⟩)] at hL
        exact late_in hp k (by omega) (by omega) _ _ hL
theorem late_fresh (C : Canon P ops lt s) {k p β : Nat} {es : List (AV × AV)} {M : TypeId} {mo ky x : Operand} (hk : k < C.n) (hw : C.want k = true) (hcl : clsL lt (C.o k) = .late) (hL : C.L k = .some β es) (hf : freshKey (opnd ky (C.e k)) es = true) (ho : (C.o k).op = .insert M mo ky x)
    (hp : C.IsLate p) (hne : p ≠ k) : eqKey (opnd ky (C.e k)) (C.lkey p) = some false := by
  by_cases hlt : p < k
  · exact freshKey_mem hf _ (late_in hp k hlt (by omega) _ _ hL)
  · have hkl : C.IsLate k := ⟨hk, hw, hcl⟩
    obtain ⟨_, _, M', mo', ky', x', el', β', es', e3, _, _, h4, h5, h6⟩ := C.late p hp.1 hp.2.1 hp.2.2
    have hm := late_in hkl p (by omega) (Nat.le_of_lt hp.1) _ _ h4
    have := freshKey_mem h5 _ hm
    have e1 : C.lkey p = opnd ky' (C.e p) := by simp only [lkey, e3]
    have e2 : C.lkey k = opnd ky (C.e k) := by simp only [lkey, ho]
    rw [e1, ← e2]
    exact eqKey_comm this

/-- One place, executed. -/
theorem Inv.place {F : Fence} {N : Nat} (hF : Free F) (hs : CallsOK P s) (h : C.Inv ρ₀ w₀ a₀ S σ a w m) (hc : C.Closed S) {k : Nat} (hk : k < C.n) (hn : ¬ S k) (hr : C.Ready S k) (hd : ∀ t, (C.o k).dst = some t → t < a₀.tmps.size) {Q : Exit → Act → World → Prop} {K : Act → World → Prop}
    (hK : ∀ σ' a' w' m', C.Inv ρ₀ w₀ a₀ (fun q => S q ∨ q = k) σ' a' w' m' → K a' w') : wpOpIn F N P ops Q (C.i k) K a w := by
  unfold wpOpIn
  rw [C.get k hk]
  simp only
  rw [h.wants hc hk hn hr]
  have Hop := h.operands hc hk hn hr
  cases hw : C.want k with
  | false =>
    simp only [Bool.false_eq_true, if_false]
    refine ⟨fun f _ => hF.fn f, ?_⟩
    obtain ⟨e1, e2⟩ := C.un k hk hw
    have hv : VR σ (C.v k) undef := by rw [e1]; exact ⟨#[], rfl, trivial⟩
    by_cases hh : clsL lt (C.o k) = .heavy
    · exact hK _ _ _ _ (h.stillHeavy hc hk hn hr hd e2 hh hv)
    · exact hK _ _ _ _ (h.still hc hk hn hd e2 hh (fun hl => by have := hl.2.1; rw [hw] at this; cases this) hv)
  | true =>
    simp only [if_true]
    cases hcl : clsL lt (C.o k) with
    | pure =>
      obtain ⟨e1, e2⟩ := C.pure k hk hw hcl
      obtain ⟨val, q1, q2⟩ := light_sound (P := P) Hop e1 w
      refine wpIn_value hF (light_defer e1) q1 ?_
      exact hK _ _ _ _ (h.still hc hk hn hd e2 (by rw [hcl]; exact fun h => by cases h) (fun hl => by have := hl.2.2; rw [hcl] at this; cases this) q2)
    | read =>
      have e1 := h.seen hc hk hn hr hcl hw
      have hrm : HR (C.H m) σ w := (h.hr.sub fun β x hx => .inl hx).heap h.top
      obtain ⟨val, q1, q2⟩ := readA_sound (P := P) hrm Hop e1
      refine wpIn_value hF (readA_defer e1) q1 ?_
      exact hK _ _ _ _ (h.still hc hk hn hd (C.read k hk hw hcl).1 (by rw [hcl]; exact fun h => by cases h) (fun hl => by have := hl.2.2; rw [hcl] at this; cases this) q2)
    | alloc =>
      obtain ⟨nv, x, e1, e2, e3⟩ := C.alloc k hk hw hcl
      obtain ⟨val, obj, sz, q1, q2, q3⟩ := allocL_sound (P := P) Hop e1 w
      refine wpIn_value hF (allocL_defer e1) q1 ?_
      exact hK _ _ _ _ (h.stepAlloc hs hc hk hn hd (.inl hcl) hw e2 e3 q3 (fun hb => by rw [hcl] at hb; cases hb))
    | born =>
      obtain ⟨e1, e2, e3, e4, e5⟩ := C.born k hk hw hcl
      obtain ⟨val, obj, sz, q1, q2, q3⟩ := bornL_sound (P := P) Hop e1 w
      refine wpIn_value hF (allocL_defer e1) q1 ?_
      exact hK _ _ _ _ (h.stepAlloc hs hc hk hn hd (.inr hcl) hw (nv := .map) (x := .dead) e2 e3 (fun β ρ' h1 h2 => ⟨trivial, q3 β ρ' h2⟩) (fun _ => ⟨q2.1, q2.2, rfl⟩))
    | late =>
      obtain ⟨e1, e2, M, mo, ky, x, el, β, es, e3, e4, e5, e6, e7, e8⟩ := C.late k hk hw hcl
      obtain ⟨kb, kb1, kb2, kb3, kb4⟩ := C.L_some k (by omega) _ _ e6
      have hSb : S kb := C.need hk kb1 (C.lates k kb hk kb1 hcl kb3) hc hr
      obtain ⟨b, ms, q, l1, l2, l3, l4, l5, l6, l7⟩ := h.lat kb (by omega) hSb kb2 kb3
      rw [← kb4] at l1
      have hkey : C.lkey k = opnd ky (C.e k) := by simp only [lkey, e3]
      have hval : C.lval k = opnd x (C.e k) := by simp only [lval, e3]
      have Hk : VR σ (opnd ky (C.e k)) (a.eval ky) := Hop ky (by rw [e3]; simp [Op.operands])
      have Hx : VR σ (opnd x (C.e k)) (a.eval x) := Hop x (by rw [e3]; simp [Op.operands])
      have Hm : VR σ (opnd mo (C.e k)) (a.eval mo) := Hop mo (by rw [e3]; simp [Op.operands])
      rw [e5] at Hm
      obtain ⟨b', base, sz, m1, m2⟩ := Hm
      rw [l1] at m1; injection m1 with m1; simp at m1; obtain ⟨rfl, rfl, rfl⟩ := m1
      have hfresh : ∀ p ∈ q, eqKey (opnd ky (C.e k)) (C.lkey p) = some false := fun p hp => by
        obtain ⟨hpl, hpS⟩ := (l6 p).1 hp
        exact C.late_fresh hk hw hcl e6 e7 e3 hpl (fun e => hn (e ▸ hpS))
      obtain ⟨q1, q2⟩ := insert_run (P := P) (w := w) (b := b) (ms := ms) (o := C.o k) e3 e4 Hk m2 l3 (C.lents_fresh hfresh l7)
      refine wpIn_skip_op hF (by rw [e3]; exact fun c h => by cases h) q1 ?_
      refine hK _ _ _ _ (h.stepLate hc hk hn hr hd hcl hw (val := undef) (by rw [e2]; trivial) e6 l1 l3 (by rw [hkey]; exact Hk) (by rw [hval]; exact Hx))
    | heavy =>
      have e1 := C.heavy k hk hw hcl
      have hmk := h.front_le hc hk hn (by rw [hcl]; exact fun h => by cases h)
      obtain ⟨u1, u2⟩ := h.upto_heavy hc hk hr hcl hmk
      have hrk : HR (C.H k) σ w := (h.hr.sub u1).heap u2
      exact oper_step hF hs hrk Hop e1 (fun β h1 h2 => h.fresh k hk hn β h1 h2) fun ρ' w' val q1 q2 => hK _ _ _ _ (h.stepHeavy hs hc hk hn hr hd hcl q2 q1)

/-- A dead object comes back to life: a block that no live object lies in, and that was not there at the beginning. -/
theorem Step.revive {A A' : AH} {ρ ρ' : Rho} {w w' : World} (h : Step A ρ w A' ρ' w') {β b : Nat} {x : AObj} (hb : ρ' β = some (b, 0, 0)) (hlt : β < A'.next) (h0 : w.heap.size ≤ b) (hu : ∀ β' y l, A'.get β' = some y → y.seen = true → ρ' β' = some l → l.1 ≠ b) (ho : OR ρ' w' b 0 0 x) : Step A ρ w (A'.put β x) ρ' w' where
  le := h.le
  win := h.win
  next := h.next
  hr := by
    refine ⟨fun β' y hy => ?_, fun β₁ β₂ y₁ y₂ l₁ l₂ h1 h2 h3 h4 h5 h6 h7 => ?_, fun β' y hy => ?_⟩
    · rw [AH.get_put] at hy
      split at hy
      · rename_i e; subst e; injection hy with hy; subst hy
        exact ⟨b, 0, 0, hb, ho⟩
      · exact h.hr.obj β' y hy
    · rw [AH.get_put] at h1 h2
      split at h1
      · rename_i e1; subst e1
        rw [hb] at h6; injection h6 with h6; subst h6
        split at h2
        · rename_i e2; exact absurd e2.symm h5
        · exact fun e => hu _ _ _ h2 h4 h7 e.symm
      · split at h2
        · rename_i e2; subst e2
          rw [hb] at h7; injection h7 with h7; subst h7
          exact hu _ _ _ h1 (AObj.live_seen h3) h6
        · exact h.hr.inj _ _ _ _ _ _ h1 h2 h3 h4 h5 h6 h7
    · rw [AH.get_put] at hy
      split at hy
      · rename_i e; subst e; exact hlt
      · exact h.hr.top _ _ hy
  size := h.size
  same := h.same
  img := fun q β' y l h1 h2 h3 h4 => by
    rw [AH.get_put] at h1
    split at h1
    · rename_i e; subst e
      rw [hb] at h3; injection h3 with h3; subst h3
      simp only at h4; omega
    · exact h.img q β' y l h1 h2 h3 h4
  os := h.os
  output := h.output
  tape := h.tape

theorem LEnts.get {q : List Nat} : ∀ {ms : List MapEntry} {i : Nat}, C.LEnts σ q ms i → q.length = ms.length ∧ ∀ j p m, q[j]? = some p → ms[j]? = some m → VR σ (C.lkey p) m.key ∧ VR σ (C.lval p) m.val ∧ m.born = i + j := by
  induction q with
  | nil => intro ms i h; cases ms with
    | nil => exact ⟨rfl, by simp⟩
    | cons => exact h.elim
  | cons p q ih => intro ms i h; cases ms with
    | nil => exact h.elim
    | cons m ms =>
      obtain ⟨h1, h2, h3, h4⟩ := h
      obtain ⟨g1, g2⟩ := ih h4
      refine ⟨by simp [g1], fun j p' m' hp hm => ?_⟩
      cases j with
      | zero => simp at hp hm; subst hp; subst hm; exact ⟨h1, h2, by omega⟩
      | succ j =>
        simp at hp hm
        obtain ⟨k1, k2, k3⟩ := g2 j p' m' hp hm
        exact ⟨k1, k2, by omega⟩

/-- The places' entries, in whatever order. -/
theorem LEnts.perm : ∀ {q q' : List Nat}, q.Perm q' → ∀ {ms : List MapEntry} {i : Nat}, C.LEnts σ q ms i → ∃ ms', ms.Perm ms' ∧ Ents2 σ (q'.map fun p => (C.lkey p, C.lval p)) ms' := by
  have key : ∀ {q : List Nat} {ms : List MapEntry} {i : Nat}, C.LEnts σ q ms i → Ents2 σ (q.map fun p => (C.lkey p, C.lval p)) ms := by
    intro q
    induction q with
    | nil => intro ms i h; cases ms with
      | nil => trivial
      | cons => exact h.elim
    | cons p q ih => intro ms i h; cases ms with
      | nil => exact h.elim
      | cons m ms => exact ⟨h.1, h.2.1, ih h.2.2.2⟩
  have perm2 : ∀ {a b : List (AV × AV)}, a.Perm b → ∀ {ms : List MapEntry}, Ents2 σ a ms → ∃ ms', ms.Perm ms' ∧ Ents2 σ b ms' := by
    intro a b hp
    induction hp with
    | nil => exact fun h => ⟨_, List.Perm.refl _, h⟩
    | cons x _ ih =>
      intro ms h
      cases ms with
      | nil => exact h.elim
      | cons m ms =>
        obtain ⟨ms', h1, h2⟩ := ih h.2.2
        exact ⟨m :: ms', h1.cons m, h.1, h.2.1, h2⟩
    | swap x y l =>
      intro ms h
      cases ms with
      | nil => exact h.elim
      | cons m ms =>
        cases ms with
        | nil => exact h.2.2.elim
        | cons m' ms => exact ⟨m' :: m :: ms, List.Perm.swap _ _ _, h.2.2.1, h.2.2.2.1, h.1, h.2.1, h.2.2.2.2⟩
    | trans _ _ ih1 ih2 =>
      intro ms h
      obtain ⟨m1, a1, a2⟩ := ih1 h
      obtain ⟨m2, b1, b2⟩ := ih2 a2
      exact ⟨m2, a1.trans b1, b2⟩
  intro q q' hp ms i h
  exact perm2 (hp.map _) (key h)

/-- All late places, in the plan's order. -/
noncomputable def lateList (C : Canon P ops lt s) (k : Nat) : List Nat := (List.range k).filter fun p => C.want p && (match clsL lt (C.o p) with | .late => true | _ => false)
omit [LoopTab] in
theorem lateList_mem {p k : Nat} : p ∈ C.lateList k ↔ p < k ∧ C.want p = true ∧ clsL lt (C.o p) = .late := by
  unfold lateList
  rw [List.mem_filter, List.mem_range, Bool.and_eq_true]
  constructor
  · rintro ⟨h1, h2, h3⟩
    refine ⟨h1, h2, ?_⟩
    split at h3
    · assumption
    · cases h3
  · rintro ⟨h1, h2, h3⟩
    exact ⟨h1, h2, by rw [h3]⟩
omit [LoopTab] in
theorem lateList_L (C : Canon P ops lt s) : ∀ k, k ≤ C.n → ∀ β es, C.L k = .some β es → es = (C.lateList k).map fun p => (C.lkey p, C.lval p)
  | 0, _, β, es, h => by rw [C.L0] at h; cases h
  | k + 1, hk, β, es, h => by
    have hsucc : C.lateList (k + 1) = C.lateList k ++ (if C.want k && (match clsL lt (C.o k) with | .late => true | _ => false) then [k] else []) := by
      unfold lateList
      rw [List.range_succ, List.filter_append]
      congr 1
      simp only [List.filter_cons, List.filter_nil]
    by_cases hq : C.want k = true ∧ (clsL lt (C.o k) = .born ∨ clsL lt (C.o k) = .late)
    · obtain ⟨hw, hc | hc⟩ := hq
      · obtain ⟨_, _, _, h4, h5⟩ := C.born k (by omega) hw hc
        rw [h5] at h; injection h with h1 h2
        rw [hsucc, hc]
        have : C.lateList k = [] := by
          cases hl : C.lateList k with
          | nil => rfl
          | cons p l =>
            obtain ⟨p1, p2, p3⟩ := lateList_mem.1 (hl ▸ List.mem_cons_self : p ∈ C.lateList k)
            obtain ⟨_, _, M, mo, ky, x, el, β', es', _, _, _, q4, _, q6⟩ := C.late p (by omega) p2 p3
            obtain ⟨kb, g1, g2, g3, _⟩ := C.L_some p (by omega) _ _ q4
            obtain ⟨es1, g5⟩ := C.L_after g2 g3 k (by omega) (by omega)
            rw [h4] at g5; cases g5
        rw [this, ← h2]; simp
      · obtain ⟨_, _, M, mo, ky, x, el, β', es', e3, _, _, h4, _, h6⟩ := C.late k (by omega) hw hc
        rw [h6] at h; injection h with h1 h2
        rw [hsucc, hc, hw, ← h2, lateList_L C k (by omega) _ _ h4]
        simp [lkey, lval, e3]
    · rw [C.Lst k (by omega) (fun hw => ⟨fun hc => hq ⟨hw, .inl hc⟩, fun hc => hq ⟨hw, .inr hc⟩⟩)] at h
      have : (C.want k && (match clsL lt (C.o k) with | .late => true | _ => false)) = false := by
        cases hw : C.want k with
        | false => rfl
        | true =>
          cases hc : clsL lt (C.o k) <;> first | rfl | exact absurd ⟨hw, .inr hc⟩ hq
      rw [hsucc, this]
      simp only [Bool.false_eq_true, if_false, List.append_nil]
      exact lateList_L C k (by omega) _ _ h

theorem lateObj_OR {σ : Rho} {w : World} {b : Nat} {es : List (AV × AV)} {ms : Array MapEntry} {ms' : List MapEntry} (hb : w.heap[b]? = some (.map ms ms.size)) (hp : ms.toList.Perm ms') (he : Ents2 σ es ms') (hborn : ∀ (j : Nat) (m : MapEntry), ms.toList[j]? = some m → m.born = j) : OR σ w b 0 0 (lateObj es) := by
  unfold lateObj
  split
  · cases ms' with
    | cons => exact he.elim
    | nil =>
      have : ms = #[] := by apply Array.ext'; simpa using hp.eq_nil
      subst this
      exact ⟨#[], hb, trivial⟩
  · rename_i k v
    cases ms' with
    | nil => exact he.elim
    | cons m ms' =>
      cases ms' with
      | cons => exact he.2.2.elim
      | nil =>
        have h1 : ms.toList = [m] := List.perm_singleton.1 hp
        have h2 := hborn 0 m (by rw [h1]; rfl)
        have h3 : ms.size = 1 := by rw [← Array.length_toList, h1]; rfl
        rw [h3] at hb
        exact ⟨ms, hb, by rw [h1]; exact ⟨he.1, he.2.1, h2, trivial⟩⟩
  · exact ⟨ms, _, ms', hb, hp, he⟩

theorem Inv.final (hs : CallsOK P s) (h : C.Inv ρ₀ w₀ a₀ S σ a w m) (hc : C.Closed S) (hall : ∀ k, k < C.n → S k) : ER σ (C.e C.n) a ∧ Step (C.H 0) ρ₀ w₀ (finLate (C.H C.n) (C.L C.n)) σ w := by
  obtain ⟨u1, u2⟩ := h.upto C.n h.mle (Nat.le_refl _) fun p h1 h2 => ⟨fun hh => by have := h.last p h2 (hall p h2) hh; omega, fun _ => hall p h2⟩
  have hrn : HR (C.H C.n) σ w := (h.hr.sub u1).heap u2
  have hstep : Step (C.H 0) ρ₀ w₀ (C.H C.n) σ w := ⟨h.le, h.win, C.mono' hs (Nat.zero_le _) (Nat.le_refl _), hrn, h.size, h.same, fun k β x l h1 => h.img k β x l (u1 _ _ h1), h.os, h.output, h.tape⟩
  refine ⟨fun t => ?_, ?_⟩
  · rw [← C.env_all C.n (Nat.le_refl _) t]
    have : (C.env (fun _ => True) C.n).get t = (C.env S C.n).get t := envS_congr C.n fun q hq _ => ⟨fun _ => hall q hq, fun _ => trivial⟩
    rw [this]
    exact h.slots t
  · cases hL : C.L C.n with
    | none => exact hstep
    | some β es =>
      obtain ⟨kb, kb1, kb2, kb3, rfl⟩ := C.L_some C.n (Nat.le_refl _) _ _ hL
      obtain ⟨b, ms, q, l1, l2, l3, l4, l5, l6, l7⟩ := h.lat kb kb1 (hall kb kb1) kb2 kb3
      have hes := lateList_L C C.n (Nat.le_refl _) _ _ hL
      have hperm : q.Perm (C.lateList C.n) := by
        have hnd : (C.lateList C.n).Nodup := List.Pairwise.filter _ List.nodup_range
        refine (List.perm_ext_iff_of_nodup l5 hnd).2 fun p => ?_
        rw [l6, lateList_mem]
        exact ⟨fun ⟨a, _⟩ => a, fun a => ⟨a, hall p a.1⟩⟩
      obtain ⟨ms', p1, p2⟩ := LEnts.perm hperm l7
      have hnext : (C.H (kb + 1)).next = (C.H kb).next + 1 := by rw [(C.born kb kb1 kb2 kb3).2.2.1]; rfl
      have hmono := C.mono' hs (show kb + 1 ≤ C.n by omega) (Nat.le_refl _)
      refine Step.revive hstep l1 (by omega) l2 (fun β' y l g1 => l4 β' y l (u1 _ _ g1)) ?_
      rw [hes]
      refine lateObj_OR l3 p1 p2 fun j mm hj => ?_
      obtain ⟨g1, g2⟩ := LEnts.get l7
      have hj' : j < ms.toList.length := (List.getElem?_eq_some_iff.1 hj).1
      obtain ⟨pp, hpp⟩ : ∃ pp, q[j]? = some pp := ⟨q[j]'(by omega), List.getElem?_eq_getElem _⟩
      have := (g2 j pp mm hpp hj).2.2
      omega

theorem Inv.init (hr : HR (C.H 0) ρ₀ w₀) (hs : CallsOK P s) (he : ER ρ₀ (C.e 0) a₀) (hwin : Win (C.H 0).next (C.H C.n).next ρ₀) (S : Nat → Prop) (hS : ∀ k, ¬ S k) : C.Inv ρ₀ w₀ a₀ S ρ₀ a₀ w₀ 0 where
  mle := Nat.zero_le _
  front := .inl rfl
  last := fun k _ h => absurd h (hS k)
  hr := hr.set.sub fun β x hx => by
    rcases hx with hx | ⟨p, _, p2, _⟩
    · exact hx
    · exact absurd p2 (hS p)
  top := hr.top
  fresh := fun k hk _ β h1 h2 => hwin β (Nat.le_trans (C.mono' hs (Nat.zero_le _) (by omega)) h1) (Nat.lt_of_lt_of_le h2 (C.mono' hs (by omega) (Nat.le_refl _)))
  slots := fun t => by
    have : (C.env S C.n).get t = (C.env S 0).get t := envS_tail C.n (Nat.zero_le _) fun q _ _ _ h => absurd h (hS q)
    rw [this]
    exact he t
  le := fun _ _ h => h
  win := fun _ _ => rfl
  size := Nat.le_refl _
  same := fun _ _ _ => rfl
  img := fun _ β x l h1 h2 h3 _ => by
    rcases h1 with h1 | ⟨p, _, p2, _⟩
    · exact ⟨β, x, l, h1, h2, h3, rfl⟩
    · exact absurd p2 (hS p)
  os := rfl
  output := rfl
  tape := rfl
  lat := fun kb _ h _ _ => absurd h (hS kb)
  defers := rfl
  tsz := rfl

/-- The places that are listed. -/
def In (C : Canon P ops lt s) (listed : Array Bool) (k : Nat) : Prop := k < C.n ∧ listed.getD (C.i k) false = true

theorem i_lt {k : Nat} (hk : k < C.n) : C.i k < ops.size := by
  have := C.get k hk
  exact (Array.getElem?_eq_some_iff.1 this).1

theorem mem_ready {listed : Array Bool} {j : Nat} (hsz : listed.size = ops.size) (h : j ∈ Region.ready .any ops listed) : ∃ k, k < C.n ∧ C.i k = j ∧ ¬ C.In listed k ∧ C.Ready (C.In listed) k := by
  simp only [Region.ready, List.mem_filter, List.mem_range, Bool.and_eq_true, Bool.not_eq_true'] at h
  obtain ⟨h1, h2, h3⟩ := h
  obtain ⟨k, hk, rfl⟩ := C.sur j h1
  refine ⟨k, hk, rfl, fun hin => ?_, fun ed hed hb r hr hir => ⟨hr, ?_⟩⟩
  · have := hin.2
    rw [Array.getD_eq_getD_getElem?] at this h2
    rw [Array.getElem?_eq_getElem (by omega)] at this h2
    simp at this h2
    rw [this] at h2; cases h2
  · rw [C.get k hk] at h3
    simp only [Option.map_some, Option.getD_some, Array.all_eq_true_iff_forall_mem] at h3
    have := h3 ed hed
    rw [hb] at this
    simpa [hir] using this

theorem any_ready {listed : Array Bool} (hsz : listed.size = ops.size) (h : ∃ k, k < C.n ∧ ¬ C.In listed k) : Region.ready .any ops listed ≠ [] := by
  -- the first place that is not listed
  have hmin : ∃ k, (k < C.n ∧ ¬ C.In listed k) ∧ ∀ p, p < k → ¬ (p < C.n ∧ ¬ C.In listed p) := by
    obtain ⟨k, hk⟩ := h
    induction k using Nat.strongRecOn with
    | _ k ih =>
      by_cases hq : ∃ p, p < k ∧ p < C.n ∧ ¬ C.In listed p
      · obtain ⟨p, h1, h2⟩ := hq
        exact ih p h1 h2
      · exact ⟨k, hk, fun p h1 h2 => hq ⟨p, h1, h2⟩⟩
  obtain ⟨k, ⟨hk, hnk⟩, hfirst⟩ := hmin
  have hin : ∀ p, p < k → C.In listed p := fun p hp => by
    by_cases hq : C.In listed p
    · exact hq
    · exact absurd ⟨by omega, hq⟩ (hfirst p hp)
  intro hnil
  have : C.i k ∈ Region.ready .any ops listed := by
    simp only [Region.ready, List.mem_filter, List.mem_range, Bool.and_eq_true, Bool.not_eq_true']
    refine ⟨i_lt hk, ?_, ?_⟩
    · have hlt := i_lt hk
      have hne : ¬ listed.getD (C.i k) false = true := fun e => hnk ⟨hk, e⟩
      rw [Array.getD_eq_getD_getElem?, Array.getElem?_eq_getElem (by omega)] at hne ⊢
      simpa using hne
    · rw [C.get k hk]
      simp only [Option.map_some, Option.getD_some, Array.all_eq_true_iff_forall_mem]
      intro ed hed
      cases hb : Region.binds .any ed with
      | false => rfl
      | true =>
        obtain ⟨p, hp, hip⟩ := C.edges k hk ed hed hb
        have := (hin p hp).2
        rw [hip] at this
        simp [this]
  rw [hnil] at this
  cases this

theorem In_set {listed : Array Bool} (hsz : listed.size = ops.size) {k : Nat} (hk : k < C.n) : C.In (listed.setIfInBounds (C.i k) true) = fun q => C.In listed q ∨ q = k := by
  funext q
  apply propext
  have hlt := i_lt hk
  unfold In
  by_cases hq : q = k
  · subst hq
    simp only [hk, true_and, or_true, iff_true]
    rw [Array.getD_eq_getD_getElem?, Array.getElem?_setIfInBounds]
    have hlt' : C.i q < listed.size := by omega
    simp [hlt']
  · simp only [hq, or_false]
    by_cases hqn : q < C.n
    · have hne : C.i k ≠ C.i q := fun e => hq (C.inj k q hk hqn e).symm
      simp only [hqn, true_and]
      rw [Array.getD_eq_getD_getElem?, Array.getElem?_setIfInBounds, if_neg hne, ← Array.getD_eq_getD_getElem?]
    · simp [hqn]

theorem any_order {F : Fence} {N : Nat} (hF : Free F) (hs : CallsOK P s) (hd : ∀ k, k < C.n → ∀ t, (C.o k).dst = some t → t < a₀.tmps.size) {Q : Exit → Act → World → Prop}
    (hQ : ∀ σ a w, ER σ (C.e C.n) a → Step (C.H 0) ρ₀ w₀ (finLate (C.H C.n) (C.L C.n)) σ w → a.defers = a₀.defers → a.tmps.size = a₀.tmps.size → Q .normal a w) :
    ∀ (fuel : Nat) (listed : Array Bool) (T : List Nat) (σ : Rho) (a : Act) (w : World) (m : Nat), listed.size = ops.size → T.length ≤ fuel → (∀ k, k < C.n → ¬ C.In listed k → k ∈ T) → C.Closed (C.In listed) →
      C.Inv ρ₀ w₀ a₀ (C.In listed) σ a w m → wpAnyIn F N P .any ops Q fuel listed a w := by
  have fin : ∀ (listed : Array Bool) (σ : Rho) (a : Act) (w : World) (m : Nat), C.Inv ρ₀ w₀ a₀ (C.In listed) σ a w m → (∀ k, k < C.n → C.In listed k) → Q .normal a w := fun listed σ a w m h hall => by
    obtain ⟨f1, f2⟩ := h.final hs (fun q _ _ ed _ _ r hr _ => hall r hr) hall
    exact hQ σ a w f1 f2 h.defers h.tsz
  intro fuel
  induction fuel with
  | zero =>
    intro listed T σ a w m hsz hT hcov hc h
    have hT0 : T = [] := List.length_eq_zero_iff.1 (Nat.le_zero.1 hT)
    have hall : ∀ k, k < C.n → C.In listed k := fun k hk => by
      by_cases hq : C.In listed k
      · exact hq
      · have := hcov k hk hq; rw [hT0] at this; cases this
    refine ⟨?_, fin _ _ _ _ _ h hall⟩
    cases hr : Region.ready .any ops listed with
    | nil => rfl
    | cons j l =>
      obtain ⟨k, hk, _, hn, _⟩ := mem_ready (C := C) hsz (by rw [hr]; exact List.mem_cons_self)
      exact absurd (hall k hk) hn
  | succ fuel ih =>
    intro listed T σ a w m hsz hT hcov hc h
    refine ⟨fun hnil => ?_, fun j hj => ?_⟩
    · refine fin _ _ _ _ _ h fun k hk => ?_
      by_cases hq : C.In listed k
      · exact hq
      · exact absurd hnil (any_ready hsz ⟨k, hk, hq⟩)
    · obtain ⟨k, hk, rfl, hn, hr⟩ := mem_ready (C := C) hsz hj
      refine h.place hF hs hc hk hn hr (hd k hk) fun σ' a' w' m' h' => ?_
      rw [← In_set hsz hk] at h'
      refine ih _ (T.erase k) σ' a' w' m' (by simpa using hsz) ?_ ?_ ?_ h'
      · rw [List.length_erase_of_mem (hcov k hk hn)]; omega
      · intro q hq hqn
        rw [In_set hsz hk] at hqn
        have hqk : q ≠ k := fun e => hqn (.inr e)
        exact (List.mem_erase_of_ne hqk).2 (hcov q hq fun hin => hqn (.inl hin))
      · rw [In_set hsz hk]
        intro q hq hS ed hed hb r hrn hir
        rcases hS with hS | hS
        · exact .inl (hc q hq hS ed hed hb r hrn hir)
        · subst hS; exact .inl (hr ed hed hb r hrn hir)

/-- A drawn region along a plan. -/
theorem drawn {F : Fence} {N : Nat} (hF : Free F) (C : Canon P ops lt s) (hs : CallsOK P s) (hr : HR (C.H 0) ρ₀ w₀) (he : ER ρ₀ (C.e 0) a₀) (hwin : Win (C.H 0).next (C.H C.n).next ρ₀) (hd : ∀ k, k < C.n → ∀ t, (C.o k).dst = some t → t < a₀.tmps.size) {Q : Exit → Act → World → Prop}
    (hQ : ∀ σ a w, ER σ (C.e C.n) a → Step (C.H 0) ρ₀ w₀ (finLate (C.H C.n) (C.L C.n)) σ w → a.defers = a₀.defers → a.tmps.size = a₀.tmps.size → Q .normal a w) :
    wpAnyIn F N P .any ops Q ops.size (Array.replicate ops.size false) a₀ w₀ := by
  have hno : ∀ k, ¬ C.In (Array.replicate ops.size false) k := fun k h => by
    have := h.2
    rw [Array.getD_eq_getD_getElem?, Array.getElem?_replicate] at this
    split at this <;> simp at this
  exact any_order hF hs hd hQ ops.size _ (List.range C.n) ρ₀ a₀ w₀ 0 (by simp) (by simp [C.len]) (fun k hk _ => List.mem_range.2 hk) (fun q _ hS => absurd hS (hno q)) (Inv.init hr hs he hwin _ hno)

end Canon
end Go.Ab

namespace Go.Ab
open Go
variable {P : Program} [LoopTab]

/-! ### the static check of a plan -/
noncomputable section
def Cls.isBorn (c : Cls) : Bool := match c with | .born => true | _ => false
abbrev Acc := List (Nat × Nat × Oper)
def maskOf : Acc → Nat → Option Nat
  | [], _ => none
  | x :: r, i => match Nat.beq x.1 i with | true => some x.2.1 | false => maskOf r i
def bit (i : Nat) : Nat := Nat.pow 2 i
def predMask (acc : Acc) : List Edge → Option Nat
  | [] => some 0
  | ed :: r => match Region.binds .any ed with
    | true => (match maskOf acc ed.on, predMask acc r with | some m, some m' => some (Nat.lor (Nat.lor m (bit ed.on)) m') | _, _ => none)
    | false => predMask acc r
def readCheck (lt : Option Nat) (m : Nat) : Nat → Acc → Bool
  | _, [] => true
  | b, x :: r => match isHeavy (clsL lt x.2.2), b with
    | true, 0 => (kept m x.1).and (readCheck lt m 0 r)
    | true, b + 1 => readCheck lt m b r
    | false, b => readCheck lt m b r
def clsCheck (lt : Option Nat) (m b : Nat) (acc : Acc) (c : Cls) : Bool :=
  match c with
  | .heavy => acc.all fun x => (clsL lt x.2.2).isPure.or (kept m x.1)
  | .read => readCheck lt m b acc
  | .late => acc.all fun x => (clsL lt x.2.2).isBorn.not.or (kept m x.1)
  | _ => true
def chk (ops : Array Oper) (lt : Option Nat) : List (Nat × Nat) → Acc → Bool
  | [], acc => (List.range ops.size).all fun j => acc.any fun x => Nat.beq x.1 j
  | (i, b) :: L, acc => match ops[i]? with
    | none => false
    | some o => (match predMask acc o.after.toList with
      | none => false
      | some m => (acc.all fun x => (Nat.beq x.1 i).not).and ((acc.all fun x => (kept m x.1).or (x.2.2.apart ops o)).and ((clsCheck lt m b acc (clsL lt o)).and (chk ops lt L ((i, m, o) :: acc)))))
def planOK (ops : Array Oper) (lt : Option Nat) (L : List (Nat × Nat)) : Bool := (Nat.beq L.length ops.size).and (chk ops lt L [])
end

theorem kept_eq (m t : Nat) : kept m t = m.testBit t := by
  unfold kept
  rw [nbeq]
  have e : Nat.land (Nat.shiftRight m t) 1 = (m >>> t) &&& 1 := rfl
  rw [e, Nat.testBit_eq_decide_div_mod_eq, Nat.and_one_is_mod, Nat.shiftRight_eq_div_pow]
theorem kept_lor (m m' t : Nat) : kept (Nat.lor m m') t = (kept m t || kept m' t) := by
  rw [kept_eq, kept_eq, kept_eq]; exact Nat.testBit_or m m' t
theorem kept_bit (i t : Nat) : kept (bit i) t = true ↔ i = t := by
  rw [kept_eq]; unfold bit
  show (2 ^ i).testBit t = true ↔ _
  rw [Nat.testBit_two_pow]; simp
theorem kept_zero (t : Nat) : kept 0 t = false := by rw [kept_eq]; simp

theorem maskOf_some : ∀ {acc : Acc} {i m : Nat}, maskOf acc i = some m → ∃ x ∈ acc, x.1 = i ∧ x.2.1 = m
  | [], _, _, h => by cases h
  | x :: r, i, m, h => by
    simp only [maskOf] at h
    split at h
    · rename_i hb
      rw [nbeq] at hb
      exact ⟨x, List.mem_cons_self, by simpa using hb, by injection h⟩
    · obtain ⟨y, h1, h2⟩ := maskOf_some h
      exact ⟨y, List.mem_cons_of_mem _ h1, h2⟩

theorem predMask_edge {acc : Acc} : ∀ {l : List Edge} {m : Nat}, predMask acc l = some m → ∀ ed ∈ l, Region.binds .any ed = true → ∃ x ∈ acc, x.1 = ed.on
  | [], _, _, ed, he, _ => by cases he
  | e :: l, m, h, ed, he, hb => by
    simp only [predMask] at h
    split at h
    · split at h
      · rename_i h1 h2
        rcases List.mem_cons.1 he with rfl | he
        · obtain ⟨x, g1, g2, _⟩ := maskOf_some h1
          exact ⟨x, g1, g2⟩
        · exact predMask_edge h2 ed he hb
      · cases h
    · rename_i hnb
      rcases List.mem_cons.1 he with rfl | he
      · rw [hb] at hnb; cases hnb
      · exact predMask_edge h ed he hb

theorem predMask_kept {acc : Acc} {j : Nat} : ∀ {l : List Edge} {m : Nat}, predMask acc l = some m → kept m j = true → ∃ ed ∈ l, Region.binds .any ed = true ∧ (j = ed.on ∨ ∃ x ∈ acc, x.1 = ed.on ∧ kept x.2.1 j = true)
  | [], m, h, hk => by
    injection h with h; subst h; rw [kept_zero] at hk; cases hk
  | e :: l, m, h, hk => by
    simp only [predMask] at h
    split at h
    · rename_i hb
      split at h
      · rename_i m1 m2 h1 h2
        injection h with h; subst h
        rw [kept_lor, kept_lor] at hk
        simp only [Bool.or_eq_true] at hk
        rcases hk with (hk | hk) | hk
        · obtain ⟨x, g1, g2, g3⟩ := maskOf_some h1
          exact ⟨e, List.mem_cons_self, hb, .inr ⟨x, g1, g2, by rw [g3]; exact hk⟩⟩
        · exact ⟨e, List.mem_cons_self, hb, .inl ((kept_bit _ _).1 hk).symm⟩
        · obtain ⟨ed, g1, g2, g3⟩ := predMask_kept h2 hk
          exact ⟨ed, List.mem_cons_of_mem _ g1, g2, g3⟩
      · cases h
    · obtain ⟨ed, g1, g2, g3⟩ := predMask_kept h hk
      exact ⟨ed, List.mem_cons_of_mem _ g1, g2, g3⟩

/-- What is known of a place of a run. -/
structure Rc where
  i : Nat
  b : Nat
  m : Nat
  o : Oper
  want : Bool
  v : AV
  e : En
  A : AH
  hs : List AH
  c : Nat
  acc : Acc
  lr : LR

structure Link (P : Program) (ops : Array Oper) (lt : Option Nat) (s : Self) (r r' : Rc) : Prop where
  get : ops[r.i]? = some r.o
  est : r'.e = bindE r.o.dst r.e r.v
  hst : r'.hs = if isHeavy (clsL lt r.o) then r'.A :: r.hs else r.hs
  cst : r'.c = if isHeavy (clsL lt r.o) then r.c + 1 else r.c
  ast : r'.acc = (r.i, r.m, r.o) :: r.acc
  wanted : wantedA ops r.o.guard r.e = some r.want
  un : r.want = false → r.v = .tup [] ∧ r'.A = r.A
  pure : r.want = true → clsL lt r.o = .pure → light r.o.op P r.e = some r.v ∧ r'.A = r.A
  read : r.want = true → clsL lt r.o = .read → r'.A = r.A ∧ ∀ j, j ≤ r.b → ∃ A, r.hs[j]? = some A ∧ readA P r.o.op r.e A = some r.v
  alloc : r.want = true → clsL lt r.o = .alloc → ∃ nv x, allocL r.o.op P r.e = some (nv, x) ∧ r.v = nv.at r.A.next ∧ r'.A = r.A.push x
  heavy : r.want = true → clsL lt r.o = .heavy → opA r.o.op P s r.e r.A = .done r.v r'.A
  lst : (r.want = true → clsL lt r.o ≠ .born ∧ clsL lt r.o ≠ .late) → r'.lr = r.lr
  born : r.want = true → clsL lt r.o = .born → allocL r.o.op P r.e = some (.map, .map [] 0) ∧ r.v = .map r.A.next ∧ r'.A = r.A.push .dead ∧ r.lr = .none ∧ r'.lr = .some r.A.next []
  late : r.want = true → clsL lt r.o = .late → r'.A = r.A ∧ r.v = .any ∧ ∃ M m ky x el β es, r.o.op = .insert M m ky x ∧ keyKind P M (opnd ky r.e) = some el ∧ opnd m r.e = .map β ∧ r.lr = .some β es ∧ freshKey (opnd ky r.e) es = true ∧ r'.lr = .some β (es ++ [(opnd ky r.e, opnd x r.e)])
  lt1 : clsL lt r.o = .late → ∀ x ∈ r.acc, clsL lt x.2.2 = .born → kept r.m x.1 = true
  pm : predMask r.acc r.o.after.toList = some r.m
  new : ∀ x ∈ r.acc, x.1 ≠ r.i
  ap : ∀ x ∈ r.acc, kept r.m x.1 = true ∨ x.2.2.apart ops r.o = true
  hv : clsL lt r.o = .heavy → ∀ x ∈ r.acc, clsL lt x.2.2 = .pure ∨ kept r.m x.1 = true
  rd : clsL lt r.o = .read → readCheck lt r.m r.b r.acc = true

theorem eqS_eq {x y : AV} (h : eqS x y = true) : x = y := by
  unfold eqS at h
  split at h
  · simp at h; subst h; rfl
  · split at h
    · rename_i hk; subst hk; rw [intEq_eq] at h; simp at h; subst h; rfl
    · cases h
  · rw [natsEq_iff] at h; subst h; rfl
  · simp [nbeq] at h; obtain ⟨rfl, rfl⟩ := h; rfl
  · rfl
  · simp [nbeq] at h; obtain ⟨⟨⟨⟨⟨rfl, rfl⟩, rfl⟩, rfl⟩, rfl⟩, rfl⟩ := h; rfl
  · rfl
  · simp [nbeq] at h; subst h; rfl
  · rfl
  · rfl
  · simp [nbeq] at h; subst h; rfl
  · cases h
theorem eqSs_eq : ∀ {x y : List AV}, eqSs x y = true → x = y
  | [], [], _ => rfl
  | a :: x, b :: y, h => by
    simp only [eqSs, Bool.and_eq_true] at h
    rw [eqS_eq h.1, eqSs_eq h.2]
  | [], _ :: _, h => by cases h
  | _ :: _, [], h => by cases h
theorem eqAV_eq {x y : AV} (h : eqAV x y = true) : x = y := by
  unfold eqAV at h
  split at h
  · rw [eqSs_eq h]
  · rw [eqSs_eq h]
  · exact eqS_eq h

theorem backA_get {op : Op} {e : En} {v : AV} : ∀ (b : Nat) (hs : List AH), backA P op e v b hs = true → ∀ j, j < b → ∃ A, hs[j]? = some A ∧ readA P op e A = some v
  | 0, _, _, j, hj => by omega
  | b + 1, [], h, _, _ => by cases h
  | b + 1, H :: t, h, j, hj => by
    have h' : Option.rec (motive := fun _ => Bool) false (fun u => Bool.rec false (backA P op e v b t) (eqAV v u)) (readA P op e H) = true := h
    cases hr : readA P op e H with
    | none => rw [hr] at h'; cases h'
    | some u =>
      rw [hr] at h'
      have h'' : Bool.rec (motive := fun _ => Bool) false (backA P op e v b t) (eqAV v u) = true := h'
      rw [brec] at h''
      split at h''
      · rename_i he
        have := eqAV_eq he
        subst this
        cases j with
        | zero => exact ⟨H, rfl, hr⟩
        | succ j =>
          obtain ⟨A, g1, g2⟩ := backA_get b t h'' j (by omega)
          exact ⟨A, by simpa using g1, g2⟩
      · cases h''

/-- One step of a run along a plan. -/
theorem stepP_link {ops : Array Oper} {lt : Option Nat} {s : Self} {i b m c : Nat} {o : Oper} {e e' : En} {A A' : AH} {hs hs' : List AH} {lr lr' : LR} {acc : Acc} (hget : ops[i]? = some o) (h : stepP P ops lt s b o e A hs lr = .done e' A' hs' lr')
    (hpm : predMask acc o.after.toList = some m) (hnew : (acc.all fun x => (Nat.beq x.1 i).not) = true) (hap : (acc.all fun x => (kept m x.1).or (x.2.2.apart ops o)) = true) (hcl : clsCheck lt m b acc (clsL lt o) = true) :
    ∃ want v, ∀ r' : Rc, r'.e = e' → r'.A = A' → r'.hs = hs' → r'.lr = lr' → r'.c = (if isHeavy (clsL lt o) then c + 1 else c) → r'.acc = (i, m, o) :: acc → Link P ops lt s ⟨i, b, m, o, want, v, e, A, hs, c, acc, lr⟩ r' := by
  have hnew' : ∀ x ∈ acc, x.1 ≠ i := fun x hx e => by
    have := List.all_eq_true.1 hnew x hx
    rw [e, nbeq] at this; simp at this
  have hap' : ∀ x ∈ acc, kept m x.1 = true ∨ x.2.2.apart ops o = true := fun x hx => by
    have := List.all_eq_true.1 hap x hx
    simpa using this
  have hhv : clsL lt o = .heavy → ∀ x ∈ acc, clsL lt x.2.2 = .pure ∨ kept m x.1 = true := fun hc x hx => by
    rw [hc] at hcl
    have := List.all_eq_true.1 hcl x hx
    rcases Bool.or_eq_true _ _ ▸ this with h | h
    · left
      cases hq : clsL lt x.2.2 <;> rw [hq] at h <;> simp [Cls.isPure] at h ⊢
    · exact .inr h
  have hrd : clsL lt o = .read → readCheck lt m b acc = true := fun hc => by rw [hc] at hcl; exact hcl
  have hlt : clsL lt o = .late → ∀ x ∈ acc, clsL lt x.2.2 = .born → kept m x.1 = true := fun hc x hx hb => by
    rw [hc] at hcl
    have := List.all_eq_true.1 hcl x hx
    rw [hb] at this
    simpa [Cls.isBorn] using this
  have ft : ∀ {p : Prop}, true = false → p := fun h => by cases h
  have tf : ∀ {p : Prop}, false = true → p := fun h => by cases h
  obtain ⟨c0, hc⟩ : ∃ c0, clsL lt o = c0 := ⟨_, rfl⟩
  have hne : ∀ {p : Prop} {c1 : Cls}, c0 ≠ c1 → (true = true → clsL lt o = c1 → p) := fun hn _ h => absurd (hc.symm.trans h) hn
  unfold stepP at h
  cases hw : wantedA ops o.guard e with
  | none => rw [hw] at h; cases h
  | some want =>
    rw [hw] at h
    cases want with
    | false =>
      simp only at h
      injection h with h1 h2 h3 h4
      exact ⟨false, .tup [], fun r' k1 k2 k3 k4 k5 k6 => { get := hget, est := by rw [k1, ← h1], hst := by rw [k3, ← h3, k2, ← h2, brec], cst := k5, ast := k6, wanted := hw, un := fun _ => ⟨rfl, by rw [k2, ← h2]⟩, pure := tf, read := tf, alloc := tf, heavy := tf, lst := fun _ => by rw [k4, ← h4], born := tf, late := tf, lt1 := hlt, pm := hpm, new := hnew', ap := hap', hv := hhv, rd := hrd }⟩
    | true =>
      simp only at h
      rw [hc] at h
      cases c0 with
      | pure =>
        simp only at h
        cases hl : light o.op P e with
        | none => rw [hl] at h; cases h
        | some v =>
          rw [hl] at h
          injection h with h1 h2 h3 h4
          exact ⟨true, v, fun r' k1 k2 k3 k4 k5 k6 => { get := hget, est := by rw [k1, ← h1], hst := by rw [k3, ← h3, hc]; rfl, cst := k5, ast := k6, wanted := hw, un := ft, pure := fun _ _ => ⟨hl, by rw [k2, ← h2]⟩, read := hne (fun h => by cases h), alloc := hne (fun h => by cases h), heavy := hne (fun h => by cases h), lst := fun _ => by rw [k4, ← h4], born := hne (fun h => by cases h), late := hne (fun h => by cases h), lt1 := hlt, pm := hpm, new := hnew', ap := hap', hv := hhv, rd := hrd }⟩
      | read =>
        simp only [readP] at h
        split at h
        · cases h
        · rename_i H t
          split at h
          · rename_i v hv
            split at h
            · rename_i hb
              injection h with h1 h2 h3 h4
              refine ⟨true, v, fun r' k1 k2 k3 k4 k5 k6 => { get := hget, est := by rw [k1, ← h1], hst := by rw [k3, ← h3, hc]; rfl, cst := k5, ast := k6, wanted := hw, un := ft, pure := hne (fun h => by cases h), read := fun _ _ => ⟨by rw [k2, ← h2], fun j hj => ?_⟩, alloc := hne (fun h => by cases h), heavy := hne (fun h => by cases h), lst := fun _ => by rw [k4, ← h4], born := hne (fun h => by cases h), late := hne (fun h => by cases h), lt1 := hlt, pm := hpm, new := hnew', ap := hap', hv := hhv, rd := hrd }⟩
              cases j with
              | zero => exact ⟨H, rfl, hv⟩
              | succ j =>
                obtain ⟨A1, g1, g2⟩ := backA_get b t hb j hj
                exact ⟨A1, by simpa using g1, g2⟩
            · cases h
          · cases h
      | alloc =>
        simp only [allocP] at h
        split at h
        · rename_i nv x hl
          injection h with h1 h2 h3 h4
          exact ⟨true, nv.at A.next, fun r' k1 k2 k3 k4 k5 k6 => { get := hget, est := by rw [k1, ← h1], hst := by rw [k3, ← h3, hc]; rfl, cst := k5, ast := k6, wanted := hw, un := ft, pure := hne (fun h => by cases h), read := hne (fun h => by cases h), alloc := fun _ _ => ⟨nv, x, hl, rfl, by rw [k2, ← h2]⟩, heavy := hne (fun h => by cases h), lst := fun _ => by rw [k4, ← h4], born := hne (fun h => by cases h), late := hne (fun h => by cases h), lt1 := hlt, pm := hpm, new := hnew', ap := hap', hv := hhv, rd := hrd }⟩
        · cases h
      | heavy =>
        simp only at h
        cases hl : opA o.op P s e A with
        | stuck l => rw [hl] at h; cases h
        | done v A1 =>
          rw [hl] at h
          injection h with h1 h2 h3 h4
          exact ⟨true, v, fun r' k1 k2 k3 k4 k5 k6 => { get := hget, est := by rw [k1, ← h1], hst := by rw [k3, ← h3, k2, ← h2, hc]; rfl, cst := k5, ast := k6, wanted := hw, un := ft, pure := hne (fun h => by cases h), read := hne (fun h => by cases h), alloc := hne (fun h => by cases h), heavy := fun _ _ => by rw [k2, ← h2]; exact hl, lst := fun _ => by rw [k4, ← h4], born := hne (fun h => by cases h), late := hne (fun h => by cases h), lt1 := hlt, pm := hpm, new := hnew', ap := hap', hv := hhv, rd := hrd }⟩
      | born =>
        simp only [bornP] at h
        split at h
        · rename_i nv x hl
          split at h
          · injection h with h1 h2 h3 h4
            exact ⟨true, .map A.next, fun r' k1 k2 k3 k4 k5 k6 => { get := hget, est := by rw [k1, ← h1], hst := by rw [k3, ← h3, hc]; rfl, cst := k5, ast := k6, wanted := hw, un := ft, pure := hne (fun h => by cases h), read := hne (fun h => by cases h), alloc := hne (fun h => by cases h), heavy := hne (fun h => by cases h), lst := fun hq => absurd hc (hq rfl).1, born := fun _ _ => ⟨hl, rfl, by rw [k2, ← h2], rfl, by rw [k4, ← h4]⟩, late := hne (fun h => by cases h), lt1 := hlt, pm := hpm, new := hnew', ap := hap', hv := hhv, rd := hrd }⟩
          · cases h
        · cases h
      | late =>
        simp only [lateP] at h
        split at h
        · rename_i M mo ky x β es hop
          split at h
          · rename_i el β' hkk hmo hfr
            split at h
            · rename_i hbb
              rw [nbeq] at hbb
              have hbb : β' = β := by simpa using hbb
              subst hbb
              injection h with h1 h2 h3 h4
              exact ⟨true, .any, fun r' k1 k2 k3 k4 k5 k6 => { get := hget, est := by rw [k1, ← h1], hst := by rw [k3, ← h3, hc]; rfl, cst := k5, ast := k6, wanted := hw, un := ft, pure := hne (fun h => by cases h), read := hne (fun h => by cases h), alloc := hne (fun h => by cases h), heavy := hne (fun h => by cases h), lst := fun hq => absurd hc (hq rfl).2, born := hne (fun h => by cases h), late := fun _ _ => ⟨by rw [k2, ← h2], rfl, M, mo, ky, x, el, β', es, hop, hkk, hmo, rfl, hfr, by rw [k4, ← h4]⟩, lt1 := hlt, pm := hpm, new := hnew', ap := hap', hv := hhv, rd := hrd }⟩
            · cases h
          · cases h
        · cases h

end Go.Ab

namespace Go.Ab
open Go
variable {P : Program} [LoopTab]

/-- A list of places, each linked with the next; the last stands for the end. -/
inductive Links (P : Program) (ops : Array Oper) (lt : Option Nat) (s : Self) : List Rc → Rc → Prop
  | nil (z : Rc) : Links P ops lt s [] z
  | cons {r : Rc} {l : List Rc} {z : Rc} (h : Link P ops lt s r (l.headD z)) (t : Links P ops lt s l z) : Links P ops lt s (r :: l) z

theorem runP_cons {ops : Array Oper} {lt : Option Nat} (p : Nat × Option Oper) (l : List (Nat × Option Oper)) (s : Self) (e : En) (A : AH) (hs : List AH) (lr : LR) :
    runP P ops lt (p :: l) s e A hs lr = (match p.2 with
      | none => .stuck [94]
      | some o => (match stepP P ops lt s p.1 o e A hs lr with
         | .stuck l' => .stuck l'
         | .done e' A' hs' lr' => runP P ops lt l s e' A' hs' lr')) := by
  obtain ⟨b, o⟩ := p
  cases o with
  | none => rfl
  | some o =>
    show PX.rec (motive := fun _ => PX) .stuck (fun e' A' hs' lr' => runP P ops lt l s e' A' hs' lr') (stepP P ops lt s b o e A hs lr) = _
    simp only
    cases stepP P ops lt s b o e A hs lr <;> rfl

theorem run_links {ops : Array Oper} {lt : Option Nat} {s : Self} : ∀ (L : List (Nat × Nat)) (e : En) (A : AH) (hs : List AH) (lr : LR) (c : Nat) (acc : Acc) (e' : En) (A' : AH) (hs' : List AH) (lr' : LR),
    runP P ops lt (L.map fun p => (p.2, ops[p.1]?)) s e A hs lr = .done e' A' hs' lr' → chk ops lt L acc = true →
    ∃ l z, Links P ops lt s l z ∧ l.length = L.length ∧ (l.headD z).e = e ∧ (l.headD z).A = A ∧ (l.headD z).hs = hs ∧ (l.headD z).lr = lr ∧ (l.headD z).c = c ∧ (l.headD z).acc = acc ∧ z.e = e' ∧ z.A = A' ∧ z.lr = lr' ∧
      (∀ j, j < ops.size → ∃ x ∈ z.acc, x.1 = j)
  | [], e, A, hs, lr, c, acc, e', A', hs', lr', h, hc => by
    injection h with h1 h2 h3 h4
    subst h1; subst h2; subst h3; subst h4
    refine ⟨[], ⟨0, 0, 0, default, false, .any, e, A, hs, c, acc, lr⟩, .nil _, rfl, rfl, rfl, rfl, rfl, rfl, rfl, rfl, rfl, rfl, fun j hj => ?_⟩
    have := List.all_eq_true.1 hc j (List.mem_range.2 hj)
    obtain ⟨x, h1, h2⟩ := List.any_eq_true.1 this
    rw [nbeq] at h2
    exact ⟨x, h1, by simpa using h2⟩
  | (i, b) :: L, e, A, hs, lr, c, acc, e', A', hs', lr', h, hc => by
    rw [List.map_cons, runP_cons] at h
    simp only [chk] at hc
    simp only at h
    cases hg : ops[i]? with
    | none => rw [hg] at h; cases h
    | some o =>
      rw [hg] at h hc
      simp only at h hc
      cases hpm : predMask acc o.after.toList with
      | none => rw [hpm] at hc; cases hc
      | some m =>
        rw [hpm] at hc
        simp only [Bool.and_eq_true] at hc
        obtain ⟨c1, c2, c3, c4⟩ := hc
        cases hst : stepP P ops lt s b o e A hs lr with
        | stuck l' => rw [hst] at h; cases h
        | done e1 A1 hs1 lr1 =>
          rw [hst] at h
          simp only at h
          obtain ⟨l, z, k1, k2, k3, k4, k5, k5', k6, k7, k8⟩ := run_links L e1 A1 hs1 lr1 (if isHeavy (clsL lt o) then c + 1 else c) ((i, m, o) :: acc) e' A' hs' lr' h c4
          obtain ⟨want, v, hl⟩ := stepP_link (c := c) hg hst hpm c1 c2 c3
          exact ⟨⟨i, b, m, o, want, v, e, A, hs, c, acc, lr⟩ :: l, z, .cons (hl _ k3 k4 k5 k5' k6 k7) k1, by simp [k2], rfl, rfl, rfl, rfl, rfl, rfl, k8⟩

theorem getD_tail (l : List Rc) (r z : Rc) (k : Nat) : (r :: l).getD (k + 1) z = l.getD k z := by simp [List.getD]
theorem headD_getD (l : List Rc) (z : Rc) : l.headD z = l.getD 0 z := by cases l <;> rfl

theorem Links.link {ops : Array Oper} {lt : Option Nat} {s : Self} : ∀ {l : List Rc} {z : Rc}, Links P ops lt s l z → ∀ k, k < l.length → Link P ops lt s (l.getD k z) (l.getD (k + 1) z)
  | _, _, .nil _, k, hk => by simp at hk
  | _, _, .cons (r := r) (l := l) (z := z) h t, 0, _ => by
    rw [getD_tail]; rw [headD_getD] at h; exact h
  | _, _, .cons (r := r) (l := l) (z := z) h t, k + 1, hk => by
    rw [getD_tail, getD_tail]
    exact t.link k (by simpa using hk)

section
variable {ops : Array Oper} {lt : Option Nat} {s : Self} {l : List Rc} {z : Rc}

/-- What lies behind a place, in the check's list. -/
theorem acc_mem (hl : Links P ops lt s l z) (h0 : (l.headD z).acc = []) : ∀ k, k ≤ l.length → ∀ x, x ∈ (l.getD k z).acc ↔ ∃ p, p < k ∧ x = ((l.getD p z).i, (l.getD p z).m, (l.getD p z).o)
  | 0, _, x => by
    rw [headD_getD] at h0
    rw [h0]; simp
  | k + 1, hk, x => by
    have hlk := hl.link k (by omega)
    rw [hlk.ast, List.mem_cons, acc_mem hl h0 k (by omega) x]
    constructor
    · rintro (h | ⟨p, h1, h2⟩)
      · exact ⟨k, Nat.lt_succ_self k, h⟩
      · exact ⟨p, by omega, h2⟩
    · rintro ⟨p, h1, h2⟩
      by_cases e : p = k
      · subst e; exact .inl h2
      · exact .inr ⟨p, by omega, h2⟩

theorem readCheck_get (hl : Links P ops lt s l z) (h0 : (l.headD z).acc = []) (h0c : (l.headD z).c = 0) : ∀ k, k ≤ l.length → ∀ (m b : Nat), readCheck lt m b (l.getD k z).acc = true →
    ∀ p, p < k → clsL lt (l.getD p z).o = .heavy → b + (l.getD (p + 1) z).c ≤ (l.getD k z).c → kept m (l.getD p z).i = true
  | 0, _, m, b, _, p, hp, _, _ => by omega
  | k + 1, hk, m, b, h, p, hp, hh, hle => by
    have hlk := hl.link k (by omega)
    have hc := hlk.cst
    rw [hlk.ast] at h
    simp only [readCheck] at h
    have mono : ∀ q, p + 1 ≤ q → q ≤ l.length → (l.getD (p + 1) z).c ≤ (l.getD q z).c := by
      intro q
      induction q with
      | zero => intro h1; omega
      | succ q ih =>
        intro h1 h2
        by_cases e : p + 1 = q + 1
        · rw [e]; exact Nat.le_refl _
        · have := ih (by omega) (by omega)
          have hq := (hl.link q (by omega)).cst
          split at hq <;> omega
    split at h
    · rename_i hhk
      rw [if_pos hhk] at hc
      simp only [Bool.and_eq_true] at h
      by_cases e : p = k
      · subst e; exact h.1
      · refine readCheck_get hl h0 h0c k (by omega) m 0 h.2 p (by omega) hh ?_
        have := mono k (by omega) (by omega)
        omega
    · rename_i b' hhk
      rw [if_pos hhk] at hc
      by_cases e : p = k
      · subst e; omega
      · exact readCheck_get hl h0 h0c k (by omega) m b' h p (by omega) hh (by omega)
    · rename_i hhk
      rw [if_neg (by rw [hhk]; exact fun h => by cases h)] at hc
      by_cases e : p = k
      · subst e
        rw [hh] at hhk; cases hhk
      · exact readCheck_get hl h0 h0c k (by omega) m _ h p (by omega) hh (by omega)

theorem needs_of_kept (hl : Links P ops lt s l z) (h0 : (l.headD z).acc = []) (S : Nat → Prop)
    (hc : ∀ q, q < l.length → S q → ∀ ed ∈ (l.getD q z).o.after, Region.binds .any ed = true → ∀ r, r < l.length → (l.getD r z).i = ed.on → S r) :
    ∀ k, k < l.length → (∀ ed ∈ (l.getD k z).o.after, Region.binds .any ed = true → ∀ r, r < l.length → (l.getD r z).i = ed.on → S r) → ∀ p, p < l.length → kept (l.getD k z).m (l.getD p z).i = true → S p := by
  intro k
  induction k using Nat.strongRecOn with
  | _ k ih =>
    intro hk hr p hp hkept
    have hlk := hl.link k hk
    obtain ⟨ed, h1, h2, h3⟩ := predMask_kept hlk.pm hkept
    have h1 : ed ∈ (l.getD k z).o.after := by simpa using h1
    rcases h3 with h3 | ⟨x, h3, h4, h5⟩
    · exact hr ed h1 h2 p hp h3
    · obtain ⟨q, q1, q2⟩ := (acc_mem hl h0 k (by omega) x).1 h3
      have hSq : S q := hr ed h1 h2 q (by omega) (by rw [← h4, q2])
      exact ih q q1 (by omega) (hc q (by omega) hSq) p hp (by rw [q2] at h5; exact h5)

/-- The canonical run. -/
noncomputable def Links.canon (hl : Links P ops lt s l z) (h0 : (l.headD z).acc = []) (h0c : (l.headD z).c = 0) (h0h : (l.headD z).hs = [(l.headD z).A]) (h0l : (l.headD z).lr = .none) (hlen : l.length = ops.size) (hsur : ∀ j, j < ops.size → ∃ x ∈ z.acc, x.1 = j) : Canon P ops lt s where
  n := l.length
  i k := (l.getD k z).i
  o k := (l.getD k z).o
  want k := (l.getD k z).want
  v k := (l.getD k z).v
  e k := (l.getD k z).e
  H k := (l.getD k z).A
  hs k := (l.getD k z).hs
  b k := (l.getD k z).b
  cnt k := (l.getD k z).c
  len := hlen
  get k hk := (hl.link k hk).get
  inj k p hk hp e := by
    have key : ∀ k p, k < l.length → p < k → (l.getD k z).i ≠ (l.getD p z).i := fun k p hk hp e =>
      (hl.link k hk).new _ ((acc_mem hl h0 k (by omega) _).2 ⟨p, hp, rfl⟩) e.symm
    rcases Nat.lt_trichotomy k p with h | h | h
    · exact absurd e.symm (key p k hp h)
    · exact h
    · exact absurd e (key k p hk h)
  sur j hj := by
    obtain ⟨x, h1, h2⟩ := hsur j hj
    have hz : z = l.getD l.length z := by simp [List.getD]
    rw [hz] at h1
    obtain ⟨p, h3, h4⟩ := (acc_mem hl h0 l.length (Nat.le_refl _) x).1 h1
    exact ⟨p, h3, by rw [← h2, h4]⟩
  est k hk := (hl.link k hk).est
  cnt0 := by rw [← headD_getD]; exact h0c
  cnts k hk := (hl.link k hk).cst
  hs0 := by rw [← headD_getD]; exact h0h
  hst k hk := (hl.link k hk).hst
  wanted k hk := (hl.link k hk).wanted
  un k hk := (hl.link k hk).un
  pure k hk := (hl.link k hk).pure
  read k hk := (hl.link k hk).read
  alloc k hk := (hl.link k hk).alloc
  heavy k hk := (hl.link k hk).heavy
  L k := (l.getD k z).lr
  L0 := by rw [← headD_getD]; exact h0l
  Lst k hk := (hl.link k hk).lst
  born k hk := (hl.link k hk).born
  late k hk := (hl.link k hk).late
  lates k p hk hp hl' hb := (hl.link k hk).lt1 hl' _ ((acc_mem hl h0 k (by omega) _).2 ⟨p, hp, rfl⟩) hb
  Needs k p := kept (l.getD k z).m (l.getD p z).i = true
  needs k p hk hp hn S hc hr := needs_of_kept hl h0 S hc k hk hr p (by omega) hn
  edges k hk ed hed hb := by
    obtain ⟨x, h1, h2⟩ := predMask_edge (hl.link k hk).pm ed (by simpa using hed) hb
    obtain ⟨p, h3, h4⟩ := (acc_mem hl h0 k (by omega) x).1 h1
    exact ⟨p, h3, by rw [← h2, h4]⟩
  slots k p hk hp := (hl.link k hk).ap _ ((acc_mem hl h0 k (by omega) _).2 ⟨p, hp, rfl⟩)
  heavies k p hk hp hh hnp := ((hl.link k hk).hv hh _ ((acc_mem hl h0 k (by omega) _).2 ⟨p, hp, rfl⟩)).resolve_left hnp
  reads k p hk hp hrd hh hle := readCheck_get hl h0 h0c k (by omega) _ _ ((hl.link k hk).rd hrd) p hp hh hle
end

theorem ordered_eq (pl : Option (List (Nat × Nat))) (ops : Array Oper) : ordered pl ops = (order pl ops.size).map fun p => (p.2, ops[p.1]?) := by
  cases pl with
  | some l => rfl
  | none =>
    simp only [ordered, order, List.map_map]
    apply List.ext_getElem?
    intro i
    simp only [List.getElem?_map]
    by_cases hi : i < ops.size
    · rw [List.getElem?_eq_getElem (by simpa using hi), List.getElem?_range hi]
      simp [hi]
    · rw [List.getElem?_eq_none (by simpa using hi), List.getElem?_eq_none (by simpa using hi)]
      rfl

/-- A drawn region, run along its plan. -/
theorem region_drawn {F : Fence} {N : Nat} (hF : Free F) {ops : Array Oper} {s : Self} (hs : CallsOK P s) (hm : P.follows .mixedOrders = true) {lt : Option Nat} {pl : Option (List (Nat × Nat))} (hok : planOK ops lt (order pl ops.size) = true) {e e' : En} {A A0' : AH} {hs' : List AH} {lr : LR}
    (h : runP P ops lt (ordered pl ops) s e A [A] .none = .done e' A0' hs' lr) : ∀ A', A' = finLate A0' lr →
    A.next ≤ A'.next ∧ ∀ {id : Nat} {ρ : Rho} {w : World} {a : Act}, HR A ρ w → ER ρ e a → Win A.next A'.next ρ → (∀ (i : Nat) (o : Oper), ops[i]? = some o → ∀ t, o.dst = some t → t < a.tmps.size) → ∀ {Q : Exit → Act → World → Prop},
      (∀ ρ' a' w', ER ρ' e' a' → Step A ρ w A' ρ' w' → a'.defers = a.defers → a'.tmps.size = a.tmps.size → Q .normal a' w') → (Code.region id ops true).wpIn F N P Q a w := by
  rw [ordered_eq] at h
  simp only [planOK, Bool.and_eq_true] at hok
  obtain ⟨hlen, hchk⟩ := hok
  rw [nbeq] at hlen; simp only [decide_eq_true_eq] at hlen
  intro A' hA'
  obtain ⟨l, z, k1, k2, k3, k4, k5, k5', k6, k7, k8, k9, k9', k10⟩ := run_links (order pl ops.size) e A [A] .none 0 [] e' A0' hs' lr h hchk
  let C := k1.canon k7 k6 (by rw [k5, k4]) k5' (by rw [k2, hlen]) k10
  have hz : l.getD l.length z = z := by simp [List.getD]
  have e0 : C.H 0 = A := by show (l.getD 0 z).A = A; rw [← headD_getD]; exact k4
  have e1 : C.H C.n = A0' := by show (l.getD l.length z).A = A0'; rw [hz]; exact k9
  have e1' : C.L C.n = lr := by show (l.getD l.length z).lr = lr; rw [hz]; exact k9'
  have e1n : A'.next = A0'.next := by rw [hA']; cases lr <;> rfl
  have e2 : C.e 0 = e := by show (l.getD 0 z).e = e; rw [← headD_getD]; exact k3
  have e3 : C.e C.n = e' := by show (l.getD l.length z).e = e'; rw [hz]; exact k8
  refine ⟨?_, fun {id ρ w a} hr he hwin hd Q hQ => ?_⟩
  · have := C.mono' hs (Nat.zero_le C.n) (Nat.le_refl _)
    rw [e0, e1] at this; rw [e1n]; exact this
  · refine wpIn_region_any hm ?_
    have hstep : Step A ρ w A ρ { w with drawn := w.drawn + 1 } := Step.heap hr rfl ⟨rfl, rfl, rfl⟩
    refine C.drawn hF hs (by rw [e0]; exact hstep.hr) (by rw [e2]; exact he) (by rw [e0, e1, ← e1n]; exact hwin) (fun k hk t ht => hd (C.i k) (C.o k) (C.get k hk) t ht) fun σ a' w' q1 q2 q3 q4 => ?_
    rw [e3] at q1
    rw [e0, e1, e1', ← hA'] at q2
    exact hQ σ a' w' q1 (hstep.trans q2) q3 q4

end Go.Ab

namespace Go.Ab
open Go
variable {P : Program} [LoopTab]

/-! ### regions in the order of the text -/
theorem opsA_cons {ops : Array Oper} (o : Oper) (l : List Oper) (s : Self) (e : En) (A : AH) :
    opsA P ops (o :: l) s e A = (match operA P ops o s e A with | .stuck q => .stuck q | .done e' A' => opsA P ops l s e' A') := by
  show EH.rec (motive := fun _ => EH) .stuck (fun e' A' => opsA P ops l s e' A') (operA P ops o s e A) = _
  cases operA P ops o s e A <;> rfl

theorem operA_done {ops : Array Oper} {o : Oper} {s : Self} {e e' : En} {A A' : AH} (h : operA P ops o s e A = .done e' A') :
    (wantedA ops o.guard e = some false ∧ e' = bindE o.dst e (.tup []) ∧ A' = A) ∨ (wantedA ops o.guard e = some true ∧ ∃ r, opA o.op P s e A = .done r A' ∧ e' = bindE o.dst e r) := by
  unfold operA guardA at h
  split at h
  · rename_i hw
    right
    refine ⟨hw, ?_⟩
    cases hq : opA o.op P s e A with
    | stuck q => rw [hq] at h; cases h
    | done v A1 =>
      rw [hq] at h
      injection h with h1 h2
      subst h1; subst h2
      exact ⟨v, rfl, rfl⟩
  · rename_i hw
    injection h with h1 h2
    exact .inl ⟨hw, h1.symm, h2.symm⟩
  · cases h

theorem wanted_sound {ops : Array Oper} {o : Oper} {e : En} {a : Act} {ρ : Rho} {want : Bool} (hw : wantedA ops o.guard e = some want) (he : ER ρ e a) : Region.wanted o (yielded ops a.tmps) = want := by
  unfold wantedA at hw
  unfold Region.wanted
  cases hg : o.guard with
  | none => rw [hg] at hw; exact Option.some.inj hw
  | some g =>
    obtain ⟨j, want⟩ := g
    rw [hg] at hw
    simp only at hw ⊢
    cases hd : (ops[j]?).bind (·.dst) with
    | none => rw [hd] at hw; cases hw
    | some d =>
      rw [hd] at hw
      simp only at hw
      have hv := he d
      have he : a.eval (.tmp d) = a.tmps.getD d undef := rfl
      unfold yielded
      rw [hd]
      simp only [Option.bind_some]
      split at hw
      · rename_i b hb
        rw [hb] at hv
        have hv : a.eval (.tmp d) = .bool b := hv
        rw [he, Array.getD_eq_getD_getElem?] at hv
        cases hq : a.tmps[d]? with
        | none => rw [hq] at hv; cases hv
        | some y =>
          rw [hq] at hv
          have : y = .bool b := hv
          subst this
          exact Option.some.inj hw
      · rename_i hb
        rw [hb] at hv
        obtain ⟨c, hv, hc'⟩ := hv
        have hnil : c = #[] := by
          apply Array.ext'
          cases hl : c.toList with
          | nil => rfl
          | cons y l => rw [hl] at hc'; exact hc'.elim
        subst hnil
        rw [he, Array.getD_eq_getD_getElem?] at hv
        rw [← Option.some.inj hw]
        cases hq : a.tmps[d]? with
        | none => rfl
        | some y =>
          rw [hq] at hv
          have : y = .tuple #[] := hv
          subst this
          rfl
      · cases hw

theorem ER.put {ρ ρ' : Rho} {e : En} {a : Act} (he : ER ρ e a) (hle : ρ.le ρ') {d : Option Nat} {r : AV} {val : Value} (hv : VR ρ' r val) (hd : ∀ t, d = some t → t < a.tmps.size) : ER ρ' (bindE d e r) (a.put d val) := by
  intro t
  rw [get_bindE, eval_put hd]
  split
  · exact hv
  · exact VR.mono hle _ _ (he t)

theorem opsA_get {ops : Array Oper} {s : Self} {t : Nat} : ∀ (l : List Oper) (e : En) (A : AH) (e' : En) (A' : AH), opsA P ops l s e A = .done e' A' → (∀ o ∈ l, o.dst ≠ some t) → e'.get t = e.get t
  | [], e, A, e', A', h, _ => by injection h with h1 h2; subst h1; rfl
  | o :: l, e, A, e', A', h, hn => by
    rw [opsA_cons] at h
    cases hq : operA P ops o s e A with
    | stuck q => rw [hq] at h; cases h
    | done e1 A1 =>
      rw [hq] at h
      rw [opsA_get l e1 A1 e' A' h fun o' ho' => hn o' (List.mem_cons_of_mem _ ho')]
      have hd := hn o List.mem_cons_self
      rcases operA_done hq with ⟨_, rfl, _⟩ | ⟨_, r, _, rfl⟩
      · rw [get_bindE, if_neg hd]
      · rw [get_bindE, if_neg hd]

theorem opsA_sound {F : Fence} {N : Nat} (hF : Free F) {ops : Array Oper} {s : Self} (hs : CallsOK P s) : ∀ (l : List Oper) (j : Nat), (∀ k, k < l.length → ops[j + k]? = l[k]?) → ∀ (e : En) (A : AH) (e' : En) (A' : AH), opsA P ops l s e A = .done e' A' →
    A.next ≤ A'.next ∧ ∀ {ρ : Rho} {w : World} {a : Act}, HR A ρ w → ER ρ e a → Win A.next A'.next ρ → (∀ (i : Nat) (o : Oper), ops[i]? = some o → ∀ t, o.dst = some t → t < a.tmps.size) → ∀ {Q : Exit → Act → World → Prop},
      (∀ ρ' a' w', ER ρ' e' a' → Step A ρ w A' ρ' w' → a'.defers = a.defers → a'.tmps.size = a.tmps.size → Q .normal a' w') → wpOpsIn F N P ops Q (List.range' j l.length) a w
  | [], j, hj, e, A, e', A', h => by
    injection h with h1 h2
    subst h1; subst h2
    refine ⟨Nat.le_refl _, fun hr he _ _ _ hQ => ?_⟩
    exact hQ _ _ _ he (Step.refl hr) rfl rfl
  | o :: l, j, hj, e, A, e', A', h => by
    rw [opsA_cons] at h
    cases hq : operA P ops o s e A with
    | stuck q => rw [hq] at h; cases h
    | done e1 A1 =>
      rw [hq] at h
      obtain ⟨m1, ih⟩ := opsA_sound hF hs l (j + 1) (fun k hk => by
        have := hj (k + 1) (by simp; omega)
        rw [show j + 1 + k = j + (k + 1) by omega, this]; simp) e1 A1 e' A' h
      have hget : ops[j]? = some o := by have := hj 0 (by simp); simpa using this
      have hstep : A.next ≤ A1.next := by
        rcases operA_done hq with ⟨_, _, rfl⟩ | ⟨_, r, hr, _⟩
        · exact Nat.le_refl _
        · exact opA_next hs hr
      refine ⟨Nat.le_trans hstep m1, fun {ρ w a} hr he hwin hd Q hQ => ?_⟩
      rw [show (o :: l).length = l.length + 1 from rfl, List.range'_succ, wpOpsIn_cons]
      unfold wpOpIn
      rw [hget]
      simp only
      rcases operA_done hq with ⟨hw, rfl, rfl⟩ | ⟨hw, r, hop, rfl⟩
      · rw [wanted_sound hw he]
        simp only [Bool.false_eq_true, if_false]
        refine ⟨fun f _ => hF.fn f, ?_⟩
        refine ih hr (he.put (fun _ _ h => h) (r := .tup []) (val := undef) ⟨#[], rfl, trivial⟩ (hd j o hget)) hwin (fun i o' hi t ht => by rw [size_put]; exact hd i o' hi t ht) fun ρ' a' w' q1 q2 q3 q4 => ?_
        exact hQ ρ' a' w' q1 q2 (q3.trans (defers_put _ _ _)) (q4.trans (size_put _ _ _))
      · rw [wanted_sound hw he]
        simp only [if_true]
        refine oper_step hF hs hr (fun x _ => opnd_sound fun t _ => he t) hop (hwin.left m1) fun ρ1 w1 val q1 q2 => ?_
        refine ih q2.hr (he.put q2.le q1 (hd j o hget)) (q2.winNext hwin) (fun i o' hi t ht => by rw [size_put]; exact hd i o' hi t ht) fun ρ' a' w' r1 r2 r3 r4 => ?_
        exact hQ ρ' a' w' r1 (q2.trans r2) (r3.trans (defers_put _ _ _)) (r4.trans (size_put _ _ _))

/-! ### what is kept -/
def KE (keep : Nat) (e : En) : Prop := ∀ t, kept keep t = false → e.get t = .any

theorem commit_get {keep : Nat} {e' : En} {t : Nat} : ∀ (l : List Oper) (b : En), ((commit keep l b e').get t = e'.get t ∧ kept keep t = true) ∨ ((commit keep l b e').get t = b.get t ∧ (kept keep t = false ∨ ∀ o ∈ l, o.dst ≠ some t))
  | [], b => .inr ⟨rfl, .inr (by simp)⟩
  | o :: l, b => by
    have e1 : commit keep (o :: l) b e' = (match o.dst with | none => commit keep l b e' | some d => (match kept keep d with | true => commit keep l (b.set d (e'.get d)) e' | false => commit keep l b e')) := by
      show Option.rec (motive := fun _ => En) (commit keep l b e') (fun d => Bool.rec (motive := fun _ => En) (commit keep l b e') (commit keep l (b.set d (e'.get d)) e') (kept keep d)) o.dst = _
      cases o.dst with
      | none => rfl
      | some d => simp only; cases kept keep d <;> rfl
    rw [e1]
    cases hd : o.dst with
    | none =>
      rcases commit_get (keep := keep) (e' := e') (t := t) l b with h | ⟨h, h' | h'⟩
      · exact .inl h
      · exact .inr ⟨h, .inl h'⟩
      · refine .inr ⟨h, .inr fun o' ho' => ?_⟩
        rcases List.mem_cons.1 ho' with rfl | ho'
        · rw [hd]; exact fun h => by cases h
        · exact h' o' ho'
    | some d =>
      simp only
      cases hk : kept keep d with
      | true =>
        simp only
        rcases commit_get (keep := keep) (e' := e') (t := t) l (b.set d (e'.get d)) with h | ⟨h, h'⟩
        · exact .inl h
        · rw [En.get_set] at h
          by_cases e : t = d
          · subst e; simp only [if_true] at h; exact .inl ⟨h, hk⟩
          · rw [if_neg e] at h
            refine .inr ⟨h, h'.imp id fun h' o' ho' => ?_⟩
            rcases List.mem_cons.1 ho' with rfl | ho'
            · rw [hd]; exact fun h => e (Option.some.inj h).symm
            · exact h' o' ho'
      | false =>
        simp only
        rcases commit_get (keep := keep) (e' := e') (t := t) l b with h | ⟨h, h' | h'⟩
        · exact .inl h
        · exact .inr ⟨h, .inl h'⟩
        · by_cases e : t = d
          · subst e; exact .inr ⟨h, .inl hk⟩
          · refine .inr ⟨h, .inr fun o' ho' => ?_⟩
            rcases List.mem_cons.1 ho' with rfl | ho'
            · rw [hd]; exact fun h => e (Option.some.inj h).symm
            · exact h' o' ho'

theorem commit_KE {keep : Nat} {l : List Oper} {e e' : En} (h : KE keep e) : KE keep (commit keep l e e') := fun t ht => by
  rcases commit_get (keep := keep) (e' := e') (t := t) l e with ⟨_, h2⟩ | ⟨h1, _⟩
  · rw [ht] at h2; cases h2
  · rw [h1]; exact h t ht
theorem commit_ER {keep : Nat} {l : List Oper} {e e' : En} {ρ : Rho} {a : Act} (h : KE keep e) (he : ER ρ e' a) (hn : ∀ t, (∀ o ∈ l, o.dst ≠ some t) → e'.get t = e.get t) : ER ρ (commit keep l e e') a := fun t => by
  rcases commit_get (keep := keep) (e' := e') (t := t) l e with ⟨h1, _⟩ | ⟨h1, h2 | h2⟩
  · rw [h1]; exact he t
  · rw [h1, h t h2]; trivial
  · rw [h1, ← hn t h2]; exact he t

end Go.Ab

namespace Go.Ab
open Go
variable {P : Program} [LoopTab]

theorem stepP_env {ops : Array Oper} {lt : Option Nat} {s : Self} {b : Nat} {o : Oper} {e e' : En} {A A' : AH} {hs hs' : List AH} {lr lr' : LR} (h : stepP P ops lt s b o e A hs lr = .done e' A' hs' lr') : ∃ v, e' = bindE o.dst e v := by
  unfold stepP at h
  split at h
  · split at h
    · cases hq : light o.op P e with
      | none => rw [hq] at h; cases h
      | some v => rw [hq] at h; injection h with h1; exact ⟨v, h1.symm⟩
    · unfold readP at h
      split at h
      · cases h
      · split at h
        · rename_i v _
          split at h
          · injection h with h1; exact ⟨v, h1.symm⟩
          · cases h
        · cases h
    · unfold allocP at h
      split at h
      · injection h with h1; exact ⟨_, h1.symm⟩
      · cases h
    · cases hq : opA o.op P s e A with
      | stuck q => rw [hq] at h; cases h
      | done v A1 => rw [hq] at h; injection h with h1; exact ⟨v, h1.symm⟩
    · unfold bornP at h
      split at h
      · split at h
        · injection h with h1; exact ⟨_, h1.symm⟩
        · cases h
      · cases h
    · unfold lateP at h
      split at h
      · split at h
        · split at h
          · injection h with h1; exact ⟨_, h1.symm⟩
          · cases h
        · cases h
      · cases h
  · injection h with h1; exact ⟨_, h1.symm⟩
  · cases h

theorem runP_get {ops : Array Oper} {lt : Option Nat} {s : Self} {t : Nat} : ∀ (l : List (Nat × Option Oper)) (e : En) (A : AH) (hs : List AH) (lr : LR) (e' : En) (A' : AH) (hs' : List AH) (lr' : LR), runP P ops lt l s e A hs lr = .done e' A' hs' lr' →
    (∀ p ∈ l, ∀ o, p.2 = some o → o.dst ≠ some t) → e'.get t = e.get t
  | [], e, A, hs, lr, e', A', hs', lr', h, _ => by injection h with h1; subst h1; rfl
  | (b, q) :: l, e, A, hs, lr, e', A', hs', lr', h, hn => by
    rw [runP_cons] at h
    cases q with
    | none => cases h
    | some o =>
      simp only at h
      cases hst : stepP P ops lt s b o e A hs lr with
      | stuck q => rw [hst] at h; cases h
      | done e1 A1 hs1 lr1 =>
        rw [hst] at h
        rw [runP_get l e1 A1 hs1 lr1 e' A' hs' lr' h fun p hp => hn p (List.mem_cons_of_mem _ hp)]
        obtain ⟨v, rfl⟩ := stepP_env hst
        rw [get_bindE, if_neg (hn _ List.mem_cons_self o rfl)]

/-! ### the static check of a function's code -/
noncomputable def dstsOK (n : Nat) (l : List Oper) : Bool := l.all fun o => match o.dst with | some d => Nat.blt d n | none => true
noncomputable def noRF : Code → Bool
  | .seq a b => (noRF a).and (noRF b)
  | .cond _ a b => (noRF a).and (noRF b)
  | .block _ a => noRF a
  | .loop a => noRF a
  | .rangeFunc _ _ _ _ => false
  | _ => true
noncomputable def codeOK (n : Nat) (fr : FRec) : Code → Bool
  | .region id ops draw => (dstsOK n ops.toList).and (match draw with | true => planOK ops (findL fr.lates id) (order (findL fr.plans id) ops.size) | false => true)
  | .seq a b => (codeOK n fr a).and (codeOK n fr b)
  | .cond _ a b => (codeOK n fr a).and (codeOK n fr b)
  | .block _ a => codeOK n fr a
  | .loop a => codeOK n fr a
  | .rangeFunc _ ps a b => (ps.toList.all fun t => Nat.blt t n).and ((codeOK n fr a).and ((codeOK n fr b).and ((noRF a).and (noRF b))))
  | _ => true

theorem dstsOK_some {n : Nat} {ops : Array Oper} (h : dstsOK n ops.toList = true) : ∀ (i : Nat) (o : Oper), ops[i]? = some o → ∀ t, o.dst = some t → t < n := by
  intro i o ho t ht
  have hm : o ∈ ops.toList := by
    have := Array.mem_of_getElem? ho
    simpa using this
  have := List.all_eq_true.1 h o hm
  rw [ht] at this
  simpa [nblt] using this

/-! ### loops -/
def LWp (F : Fence) (N : Nat) (P : Program) (c : Code) (Q : Exit → Act → World → Prop) (a : Act) (w : World) : Prop :=
  ∀ (b : Frame) (k : List Item) (cs : List Frame), b.roundOf = F.round → F.fn b.fn → F.room (cs.length + 1 + N) →
    ∃ e a' w', Q e a' w' ∧ ArrivesIn (Machine.fenced P F) P (lone (b.atR a (.code c :: .inLoop c :: k)) cs w) b k cs e a' w'

theorem LWp.loop {F : Fence} {N : Nat} {c : Code} {Q : Exit → Act → World → Prop} {a : Act} {w : World} (h : LWp F N P c Q a w) : (Code.loop c).wpIn F N P Q a w := by
  intro b k cs hro hb hr
  obtain ⟨e, a', w', hq, harr⟩ := h b k cs hro hb hr
  exact ⟨e, a', w', hq, .of_steps (.one (fenced_calm hb hr rfl) stepR_loop) harr⟩

theorem LWp.step {F : Fence} {N : Nat} {c : Code} {Q : Exit → Act → World → Prop} {a : Act} {w : World} (h : c.wpIn F N P (Exit.then (fun a w => LWp F N P c Q a w) Q) a w) : LWp F N P c Q a w := by
  intro b k cs hro hb hr
  obtain ⟨e, a₁, w₁, hq, harr⟩ := h b (.inLoop c :: k) cs hro hb hr
  cases e with
  | normal =>
    obtain ⟨e₂, a₂, w₂, hq₂, harr₂⟩ := hq b k cs hro hb hr
    exact ⟨e₂, a₂, w₂, hq₂, .of_steps (StepsIn.trans harr (.one (fenced_calm hb hr rfl) stepR_inLoop)) harr₂⟩
  | exit id => exact ⟨_, a₁, w₁, hq, .pass (x := .inLoop c) rfl (fun _ _ => .inl (by simp)) harr⟩
  | goto l => exact ⟨_, a₁, w₁, hq, .pass (x := .inLoop c) rfl (fun _ _ => .inl (by simp)) harr⟩
  | ret => exact ⟨_, a₁, w₁, hq, .pass (x := .inLoop c) rfl (fun _ _ => .inl (by simp)) harr⟩
  | panic ch => exact ⟨_, a₁, w₁, hq, .pass (x := .inLoop c) rfl (fun _ _ => .inl (by simp)) harr⟩
  | outgrown => exact ⟨_, a₁, w₁, hq, .pass (x := .inLoop c) rfl (fun _ _ => .inl (by simp)) harr⟩

def exitOf : Ex → Exit
  | .normal => .normal
  | .exit id => .exit id
  | .ret => .ret

/-- A block that no live object lies in. -/
def Unowned (A : AH) (ρ : Rho) (b : Nat) : Prop := ∀ β x l, A.get β = some x → x.seen = true → ρ β = some l → l.1 ≠ b
/-- The marks that ranges over functions have left, from the block B on. -/
def Marks (B : Nat) (A : AH) (ρ : Rho) (w : World) (ds : List Deferred) : Prop :=
  B ≤ w.heap.size ∧ ∃ rs : List Nat, ds = rs.map (fun r => { target := .collected r, args := #[] }) ∧ rs.Nodup ∧ ∀ r ∈ rs, B ≤ r ∧ w.heap[r]? = some (.deferred (some [])) ∧ Unowned A ρ r

omit [LoopTab] in
theorem Marks.nil {B : Nat} {A : AH} {ρ : Rho} {w : World} (h : B ≤ w.heap.size) : Marks B A ρ w [] := ⟨h, [], rfl, List.nodup_nil, by simp⟩
theorem Unowned.step {A A' : AH} {ρ ρ' : Rho} {w w' : World} {b : Nat} (h : Unowned A ρ b) (hb : b < w.heap.size) (hs : Step A ρ w A' ρ' w') : Unowned A' ρ' b := fun β x l h1 h2 h3 e => by
  obtain ⟨β₀, x₀, l₀, g1, g2, g3, g4⟩ := hs.img false β x l h1 h2 h3 (e ▸ hb)
  exact h β₀ x₀ l₀ g1 g2 g3 (g4.trans e)
theorem Marks.step {B : Nat} {A A' : AH} {ρ ρ' : Rho} {w w' : World} {ds : List Deferred} (h : Marks B A ρ w ds) (hs : Step A ρ w A' ρ' w') : Marks B A' ρ' w' ds := by
  obtain ⟨hB, rs, h1, h2, h3⟩ := h
  refine ⟨Nat.le_trans hB hs.size, rs, h1, h2, fun r hr => ?_⟩
  obtain ⟨g1, g2, g3⟩ := h3 r hr
  have hlt := (Array.getElem?_eq_some_iff.1 g2).1
  exact ⟨g1, (hs.same r hlt (fun β x l h1 h2 => g3 β x l h1 (AObj.live_seen h2))).trans g2, g3.step hlt hs⟩

/-- What running some code comes to. -/
def RunOK (fr : FRec) (n : Nat) (wp : (Exit → Act → World → Prop) → Act → World → Prop) (e : En) (A : AH) (r : R) : Prop :=
  KE fr.keep e → ∀ x e' A', r = .done x e' A' → KE fr.keep e' ∧ A.next ≤ A'.next ∧ ∀ {B : Nat} (ρ : Rho) (w : World) (a : Act), HR A ρ w → ER ρ e a → Win A.next A'.next ρ → n ≤ a.tmps.size → Marks B A ρ w a.defers →
    ∀ (Q : Exit → Act → World → Prop), (∀ ρ' a' w', ER ρ' e' a' → Step A ρ w A' ρ' w' → n ≤ a'.tmps.size → Marks B A' ρ' w' a'.defers → Q (exitOf x) a' w') → wp Q a w

/-- A block stands in some code. -/
def Holds (id : Nat) (body : Code) : Code → Prop
  | .seq a b => Holds id body a ∨ Holds id body b
  | .cond _ a b => Holds id body a ∨ Holds id body b
  | .block j a => (j = id ∧ a = body) ∨ Holds id body a
  | .loop a => Holds id body a
  | .rangeFunc _ _ a b => Holds id body a ∨ Holds id body b
  | _ => False
/-- A range over a function stands in some code. -/
def HoldsRF (ps : Array Tmp) (x y : Code) : Code → Prop
  | .seq a b => HoldsRF ps x y a ∨ HoldsRF ps x y b
  | .cond _ a b => HoldsRF ps x y a ∨ HoldsRF ps x y b
  | .block _ a => HoldsRF ps x y a
  | .loop a => HoldsRF ps x y a
  | .rangeFunc _ qs a b => (qs = ps ∧ a = x ∧ b = y) ∨ HoldsRF ps x y a ∨ HoldsRF ps x y b
  | _ => False
omit [LoopTab] in
theorem HoldsRF.ok {n : Nat} {fr : FRec} {ps : Array Tmp} {x y : Code} : ∀ c, codeOK n fr c = true → HoldsRF ps x y c → (∀ t ∈ ps.toList, t < n) ∧ codeOK n fr x = true ∧ codeOK n fr y = true ∧ noRF x = true ∧ noRF y = true
  | .seq a b, h, hh => by
    simp only [codeOK, Bool.and_eq_true] at h
    rcases hh with hh | hh
    · exact HoldsRF.ok a h.1 hh
    · exact HoldsRF.ok b h.2 hh
  | .cond _ a b, h, hh => by
    simp only [codeOK, Bool.and_eq_true] at h
    rcases hh with hh | hh
    · exact HoldsRF.ok a h.1 hh
    · exact HoldsRF.ok b h.2 hh
  | .block _ a, h, hh => HoldsRF.ok a h hh
  | .loop a, h, hh => HoldsRF.ok a h hh
  | .rangeFunc _ qs a b, h, hh => by
    simp only [codeOK, Bool.and_eq_true, List.all_eq_true, nblt, decide_eq_true_eq] at h
    obtain ⟨h1, h2, h3, h4, h5⟩ := h
    rcases hh with ⟨rfl, rfl, rfl⟩ | hh | hh
    · exact ⟨h1, h2, h3, h4, h5⟩
    · exact HoldsRF.ok a h2 hh
    · exact HoldsRF.ok b h3 hh
  | .skip, _, hh => hh.elim
  | .region .., _, hh => hh.elim
  | .exit _, _, hh => hh.elim
  | .goto _, _, hh => hh.elim
  | .label _, _, hh => hh.elim
  | .scope _, _, hh => hh.elim
  | .ret, _, hh => hh.elim
  | .refuse _, _, hh => hh.elim
omit [LoopTab] in
theorem HoldsRF.holds {ps : Array Tmp} {x y : Code} {id : Nat} {body : Code} : ∀ c, HoldsRF ps x y c → Holds id body x ∨ Holds id body y → Holds id body c
  | .seq a b, hh, h => hh.imp (fun hh => HoldsRF.holds a hh h) (fun hh => HoldsRF.holds b hh h)
  | .cond _ a b, hh, h => hh.imp (fun hh => HoldsRF.holds a hh h) (fun hh => HoldsRF.holds b hh h)
  | .block _ a, hh, h => .inr (HoldsRF.holds a hh h)
  | .loop a, hh, h => HoldsRF.holds a hh h
  | .rangeFunc _ qs a b, hh, h => by
    rcases hh with ⟨rfl, rfl, rfl⟩ | hh | hh
    · exact h
    · exact .inl (HoldsRF.holds a hh h)
    · exact .inr (HoldsRF.holds b hh h)
  | .skip, hh, _ => hh.elim
  | .region .., hh, _ => hh.elim
  | .exit _, hh, _ => hh.elim
  | .goto _, hh, _ => hh.elim
  | .label _, hh, _ => hh.elim
  | .scope _, hh, _ => hh.elim
  | .ret, hh, _ => hh.elim
  | .refuse _, hh, _ => hh.elim
omit [LoopTab] in
theorem HoldsRF.trans {ps ps' : Array Tmp} {x y x' y' : Code} : ∀ c, HoldsRF ps x y c → HoldsRF ps' x' y' x ∨ HoldsRF ps' x' y' y → HoldsRF ps' x' y' c
  | .seq a b, hh, h => hh.imp (fun hh => HoldsRF.trans a hh h) (fun hh => HoldsRF.trans b hh h)
  | .cond _ a b, hh, h => hh.imp (fun hh => HoldsRF.trans a hh h) (fun hh => HoldsRF.trans b hh h)
  | .block _ a, hh, h => HoldsRF.trans a hh h
  | .loop a, hh, h => HoldsRF.trans a hh h
  | .rangeFunc _ qs a b, hh, h => by
    rcases hh with ⟨rfl, rfl, rfl⟩ | hh | hh
    · exact .inr h
    · exact .inr (.inl (HoldsRF.trans a hh h))
    · exact .inr (.inr (HoldsRF.trans b hh h))
  | .skip, hh, _ => hh.elim
  | .region .., hh, _ => hh.elim
  | .exit _, hh, _ => hh.elim
  | .goto _, hh, _ => hh.elim
  | .label _, hh, _ => hh.elim
  | .scope _, hh, _ => hh.elim
  | .ret, hh, _ => hh.elim
  | .refuse _, hh, _ => hh.elim

/-- The blocks with an answer of their own answer rightly; the ranges over functions are known. -/
structure BlksOK (P : Program) (fr : FRec) (n : Nat) (c : Code) : Prop where
  blk : ∀ id g body, findL fr.blks id = some g → Holds id body c → ∀ e A, ∀ F N, Free F → RunOK fr n ((Code.block id body).wpIn F N P) e A (g e A)
  rf : ∀ ps x y, HoldsRF ps x y c → ∀ e, KE fr.keep e → LoopTab.ok fr.id ps.toList x y e n
theorem BlksOK.sub {fr : FRec} {n : Nat} {c d : Code} (h : BlksOK P fr n c) (h1 : ∀ id b, Holds id b d → Holds id b c) (h2 : ∀ ps x y, HoldsRF ps x y d → HoldsRF ps x y c) : BlksOK P fr n d :=
  ⟨fun id g body h3 h4 => h.blk id g body h3 (h1 _ _ h4), fun ps x y h3 => h.rf ps x y (h2 _ _ _ h3)⟩

def LoopsOK (P : Program) (s : Self) : Prop := ∀ (fr : FRec) (n : Nat) (c : Code), codeOK n fr c = true → BlksOK P fr n c → ∀ e A F N, Free F → (F.round = none ∨ noRF c = true) → RunOK fr n (LWp F N P c) e A (s.loop fr (.loop c) e A)

theorem thenA_eq (r : R) (k : En → AH → R) : thenA r k = (match r with | .stuck l => .stuck l | .done .normal e A => k e A | .done (.exit id) e A => .done (.exit id) e A | .done .ret e A => .done .ret e A) := by
  cases r with
  | stuck l => rfl
  | done x e A => cases x <;> rfl
theorem blockA_eq (id : Nat) (r : R) : blockA id r = (match r with | .stuck l => .stuck l | .done .normal e A => .done .normal e A | .done (.exit j) e A => (if j = id then .done .normal e A else .done (.exit j) e A) | .done .ret e A => .done .ret e A) := by
  cases r with
  | stuck l => rfl
  | done x e A =>
    cases x with
    | normal => rfl
    | ret => rfl
    | exit j =>
      show Bool.rec (motive := fun _ => R) (.done (.exit j) e A) (.done .normal e A) (Nat.beq j id) = _
      rw [brec, nbeq]; simp

theorem region_sound {F : Fence} {N : Nat} (hF : Free F) {s : Self} (hs : CallsOK P s) (hm : P.follows .mixedOrders = true) {fr : FRec} {n id : Nat} {ops : Array Oper} {draw : Bool} (hok : codeOK n fr (.region id ops draw) = true) (e : En) (A : AH) :
    RunOK fr n ((Code.region id ops draw).wpIn F N P) e A (regionA P fr id ops draw s e A) := by
  intro hke x e' A' h
  simp only [codeOK, Bool.and_eq_true] at hok
  obtain ⟨hd, hp⟩ := hok
  have hd := dstsOK_some hd
  unfold regionA at h
  cases draw with
  | false =>
    simp only at h
    cases hq : opsA P ops ops.toList s e A with
    | stuck l => rw [hq] at h; cases h
    | done e1 A1 =>
      rw [hq] at h
      injection h with h1 h2 h3
      subst h1; subst h2; subst h3
      obtain ⟨m1, hrun⟩ := opsA_sound hF (N := N) hs ops.toList 0 (fun k _ => by simp) e A e1 A1 hq
      refine ⟨commit_KE hke, m1, fun ρ w a hr he hwin hn hdef Q hQ => wpIn_region ?_⟩
      rw [List.range_eq_range']
      have := hrun hr he hwin (fun i o hi t ht => Nat.lt_of_lt_of_le (hd i o hi t ht) hn) (Q := Q) fun ρ' a' w' q1 q2 q3 q4 =>
        hQ ρ' a' w' (commit_ER hke q1 fun t ht => opsA_get _ _ _ _ _ hq ht) q2 (by rw [q4]; exact hn) (by rw [q3]; exact hdef.step q2)
      simpa using this
  | true =>
    simp only at h hp
    cases hq : runP P ops (findL fr.lates id) (ordered (findL fr.plans id) ops) s e A [A] .none with
    | stuck l => rw [hq] at h; cases h
    | done e1 A1 hs1 lr1 =>
      rw [hq] at h
      injection h with h1 h2 h3
      subst h1; subst h2; subst h3
      obtain ⟨m1, hrun⟩ := region_drawn hF (N := N) hs hm hp hq _ rfl
      have hget : ∀ t, (∀ o ∈ ops.toList, o.dst ≠ some t) → e1.get t = e.get t := fun t ht => by
        refine runP_get _ _ _ _ _ _ _ _ _ hq fun p hpm o ho => ?_
        rw [ordered_eq] at hpm
        obtain ⟨q, _, rfl⟩ := List.mem_map.1 hpm
        exact ht o (by have := Array.mem_of_getElem? ho; simpa using this)
      refine ⟨commit_KE hke, m1, fun ρ w a hr he hwin hn hdef Q hQ => ?_⟩
      exact hrun hr he hwin (fun i o hi t ht => Nat.lt_of_lt_of_le (hd i o hi t ht) hn) fun ρ' a' w' q1 q2 q3 q4 =>
        hQ ρ' a' w' (commit_ER hke q1 hget) q2 (by rw [q4]; exact hn) (by rw [q3]; exact hdef.step q2)

/-- A new block that no object lies in. -/
theorem Step.alloc {A : AH} {ρ : Rho} {w : World} (h : HR A ρ w) (x : Obj) : Step A ρ w A ρ (w.alloc x) where
  le := fun _ _ h => h
  win := fun _ _ => rfl
  next := Nat.le_refl _
  hr := ⟨fun β y hy => by
      obtain ⟨b, base, sz, h1, h2⟩ := h.obj β y hy
      refine ⟨b, base, sz, h1, ?_⟩
      by_cases hl : y.seen = true
      · exact h2.congr (fun _ _ h => h) (by rw [World.size_alloc]; omega) (RowKit.Below.heap_alloc _ _ _ (h2.lt hl))
      · cases y <;> first | exact trivial | exact absurd rfl hl, h.inj, h.top⟩
  size := by rw [World.size_alloc]; omega
  same := fun b hb _ => RowKit.Below.heap_alloc _ _ _ hb
  img := fun _ β y l h1 h2 h3 _ => ⟨β, y, l, h1, h2, h3, rfl⟩
  os := rfl
  output := rfl
  tape := rfl

theorem rangeF_sound {F : Fence} {N : Nat} (hF : Free F) {s : Self} (hs : CallsOK P s) (hro : F.round = none) {fr : FRec} {n : Nat} {g : Operand} {ps : Array Tmp} {x y : Code} (hok : ∀ e, KE fr.keep e → LoopTab.ok fr.id ps.toList x y e n) (e : En) (A : AH) :
    RunOK fr n ((Code.rangeFunc g ps x y).wpIn F N P) e A (rangeFA fr s (opnd g e) ps.toList x y e A) := by
  intro hke x' e' A' h
  unfold rangeFA at h
  split at h
  · rename_i f pre cap hg
    cases hq : s.call f (pre ++ [.yieldv A.next] ++ cap) (A.push (.loop fr.id ps.toList x y e .ready none)) with
    | stuck l => rw [hq] at h; cases h
    | done v A2 =>
      rw [hq] at h
      obtain ⟨m1, ⟨fn, code, f1, f2, f3⟩, f4⟩ := hs.call _ _ _ v A2 hq
      simp only [rangeFA2] at h
      split at h
      · rename_i f' ps' as' bd' e'' st pend hget
        have hA' : e' = e ∧ A' = A2.put A.next .dead ∧ (pend = none ∧ x' = .normal ∨ pend = some x') ∧ st ≠ .busy := by
          split at h
          · cases h
          · rename_i hst
            split at h
            · injection h with h1 h2 h3; exact ⟨h2.symm, h3.symm, .inl ⟨rfl, h1.symm⟩, hst⟩
            · injection h with h1 h2 h3; exact ⟨h2.symm, h3.symm, .inr (by rw [h1]), hst⟩
        obtain ⟨rfl, rfl, hx', hst⟩ := hA'
        have hnext : (A.push (.loop fr.id ps.toList x y e' .ready none)).next = A.next + 1 := rfl
        refine ⟨hke, by rw [AH.next_put]; omega, fun {B} ρ w a hr he hwin hn hd Q hQ => wpIn_rangeFunc fun fn' _ => ?_⟩
        obtain rfl := hF.none hro
        have hwin' : Win A.next A2.next ρ := hwin
        -- the record
        have st0 := Step.alloc hr (.deferred (some []))
        have hfree : ρ A.next = none := hwin' _ (Nat.le_refl _) (by omega)
        let rec0 : Loop := { state := .ready, pending := none, fn := fn', tmps := a.tmps, params := ps, assign := x, body := y, defers := w.heap.size }
        have st1 : Step A ρ (w.alloc (.deferred (some []))) (A.push (.loop fr.id ps.toList x y e' .ready none)) (ρ.add A.next ((w.alloc (.deferred (some []))).heap.size, 0, 0)) ((w.alloc (.deferred (some []))).alloc (.loop rec0)) := by
          refine Step.push st0.hr _ 0 0 hfree ?_ (World.size_alloc _ _) (fun b hb => RowKit.Below.heap_alloc _ _ _ hb) ⟨rfl, rfl, rfl⟩
          exact ⟨rec0, n, World.alloc_heap_new _ _, rfl, rfl, rfl, rfl, rfl, hok e' hke, hn, fun t => VR.mono (Rho.le_add hfree) _ _ (he t)⟩
        have st01 := st0.trans st1
        have hsz : (w.alloc (.deferred (some []))).heap.size = w.heap.size + 1 := World.size_alloc _ _
        have hv : VR ρ (opnd g e') (a.eval g) := opnd_sound fun t _ => he t
        rw [hg] at hv
        obtain ⟨p, c, g1, g2, g3⟩ := hv
        have hρ1 : ρ.add A.next ((w.alloc (.deferred (some []))).heap.size, 0, 0) A.next = some (w.heap.size + 1, 0, 0) := by rw [Rho.add_same, hsz]
        have hargs : VRs (ρ.add A.next ((w.alloc (.deferred (some []))).heap.size, 0, 0)) (pre ++ [.yieldv A.next] ++ cap) ((p ++ #[Value.func (.yield (w.heap.size + 1)) #[] #[]]) ++ c).toList := by
          rw [Array.toList_append, Array.toList_append]
          exact VRs.append (VRs.append (VRs.mono st1.le _ _ g2) ⟨⟨_, _, _, hρ1, rfl⟩, trivial⟩) (VRs.mono st1.le _ _ g3)
        have hcall := f4 _ _ _ st1.hr hargs (by
          intro β h1 h2
          rw [hnext] at h1
          rw [Rho.add_ne (by omega)]
          exact hwin' β (by omega) h2)
        refine ⟨w.heap.size + 1, [{ target := .collected w.heap.size, args := #[] }], (w.alloc (.deferred (some []))).alloc (.loop rec0), { target := .fn (.func f) c, args := p ++ #[Value.func (.yield (w.heap.size + 1)) #[] #[]] }, (w.alloc (.deferred (some []))).alloc (.loop rec0), f, _, _, ?_, ?_, fun _ _ => trivial, ?_, fun h => (by cases h), callsIn_wide.2 (hcall.mono ?_)⟩
        · rw [hro]; exact run_enterLoop_outer _ _ _ _ _
        · simp only [resolve, g1]
          simp [go_sem, rec0]
        · have hnn : fn.body.isNone = false := by rw [f3]; rfl
          have f2' : ¬ (fn.name = "runtime.NumGoroutine") := by simpa using f2
          simp [invoke, callFunc, program, Sem.run, f1, f2', f3]
        · rintro e2 w2 ⟨val, ρ2, rfl, q1, q2⟩
          have hρ2 : ρ2 A.next = some (w.heap.size + 1, 0, 0) := q2.le _ _ hρ1
          obtain ⟨b, base, sz, k1, r, n', k2, k3, k4, k5, k6, k7, k8⟩ := q2.hr.obj _ _ hget
          rw [hρ2] at k1; injection k1 with k1; simp at k1; obtain ⟨rfl, rfl, rfl⟩ := k1
          obtain ⟨w3, hw3⟩ : ∃ w3, w2.putObj (w.heap.size + 1) (.loop { r with state := .exhausted }) = w3 := ⟨_, rfl⟩
          have st3 : Step A2 ρ2 w2 (A2.put A.next .dead) ρ2 w3 := by
            subst hw3
            refine Step.put q2.hr A.next _ .dead _ 0 0 hget rfl hρ2 trivial (World.putObj_size) (fun b' hb' hne => World.putObj_heap_other hne) ⟨rfl, rfl, rfl⟩
          have stA := (st01.trans q2).trans st3
          have hm1 : Marks B (A.push (.loop fr.id ps.toList x y e' .ready none)) (ρ.add A.next ((w.alloc (.deferred (some []))).heap.size, 0, 0)) ((w.alloc (.deferred (some []))).alloc (.loop rec0)) ([{ target := .collected w.heap.size, args := #[] }] ++ a.defers) := by
            have hd0 := hd
            obtain ⟨hB, rs, d1, d2, d3⟩ := hd.step st01
            refine ⟨hB, w.heap.size :: rs, by simp [d1], List.nodup_cons.2 ⟨fun hmem => ?_, d2⟩, fun r hr' => ?_⟩
            · obtain ⟨hB0, rs0, e1, e2, e3⟩ := hd0
              have : rs0 = rs := by
                have hinj : ∀ (l l' : List Nat), l.map (fun r => ({ target := .collected r, args := #[] } : Deferred)) = l'.map (fun r => ({ target := .collected r, args := #[] } : Deferred)) → l = l' := by
                  intro l
                  induction l with
                  | nil => intro l' h; cases l' with
                    | nil => rfl
                    | cons => cases h
                  | cons z l ih => intro l' h; cases l' with
                    | nil => cases h
                    | cons z' l' => simp at h; rw [h.1, ih l' (by simpa using h.2)]
                exact hinj _ _ (e1.symm.trans d1)
              subst this
              obtain ⟨_, e4, _⟩ := e3 _ hmem
              have := (Array.getElem?_eq_some_iff.1 e4).1
              omega
            · rcases List.mem_cons.1 hr' with rfl | hr'
              · refine ⟨hd0.1, (RowKit.Below.heap_alloc _ _ _ (by rw [World.size_alloc]; omega)).trans (World.alloc_heap_new w _), fun β z l h1 h2 h3 h4 => ?_⟩
                rw [AH.get_push] at h1
                split at h1
                · rename_i eβ
                  subst eβ
                  rw [hρ1] at h3; injection h3 with h3; subst h3; simp at h4
                · rename_i hne
                  rw [Rho.add_ne hne] at h3
                  obtain ⟨b', base', sz', j1, j2⟩ := hr.obj _ _ h1
                  rw [h3] at j1; injection j1 with j1; subst j1
                  have := j2.lt h2
                  simp at h4; omega
              · exact d3 r hr'
          have hm := (hm1.step q2).step st3
          have hend := run_endLoop (P := P) k2 (by rw [k6]; exact hst)
          rw [hw3] at hend
          refine ⟨r.pending, _, hend, ?_⟩
          have hER : ER ρ2 e' { a with defers := [{ target := .collected w.heap.size, args := #[] }] ++ a.defers } := fun t => VR.mono stA.le _ _ (he t)
          rw [k7]
          rcases hx' with ⟨rfl, rfl⟩ | rfl
          · exact hQ ρ2 _ _ hER stA hn hm
          · have := hQ ρ2 _ _ hER stA hn hm
            cases x' with
            | normal => exact wpIn_skip this
            | exit j => exact wpIn_exit this
            | ret => exact wpIn_ret this
      · cases h
  · cases h

/-- Code, run. -/
theorem code_sound {F : Fence} {N : Nat} (hF : Free F) {s : Self} (hs : CallsOK P s) (hl : LoopsOK P s) (hm : P.follows .mixedOrders = true) (fr : FRec) (n : Nat) : ∀ c, codeOK n fr c = true → BlksOK P fr n c → (F.round = none ∨ noRF c = true) → (∀ e A, RunOK fr n (c.wpIn F N P) e A (codeA c P fr s e A)) ∧
    ∀ b, c = .loop b → ∀ e A, RunOK fr n (LWp F N P b) e A (codeA c P fr s e A) := by
  intro c
  induction c with
  | skip =>
    intro _ _ _
    refine ⟨fun e A hke x e' A' h => ?_, fun b hb => by cases hb⟩
    injection h with h1 h2 h3
    subst h1; subst h2; subst h3
    exact ⟨hke, Nat.le_refl _, fun ρ w a hr he _ hn hd Q hQ => wpIn_skip (hQ ρ a w he (Step.refl hr) hn hd)⟩
  | region id ops draw =>
    intro hok _ _
    exact ⟨fun e A => region_sound hF hs hm hok e A, fun b hb => by cases hb⟩
  | seq x y ihx ihy =>
    intro hok hbk hro
    have ihx := fun h => ihx h (hbk.sub (fun _ _ h => .inl h) (fun _ _ _ h => .inl h)) (hro.imp id fun h => by simp only [noRF, Bool.and_eq_true] at h; exact h.1)
    have ihy := fun h => ihy h (hbk.sub (fun _ _ h => .inr h) (fun _ _ _ h => .inr h)) (hro.imp id fun h => by simp only [noRF, Bool.and_eq_true] at h; exact h.2)
    simp only [codeOK, Bool.and_eq_true] at hok
    refine ⟨fun e A hke x' e' A' h => ?_, fun b hb => by cases hb⟩
    have h : thenA (codeA x P fr s e A) (codeA y P fr s) = .done x' e' A' := h
    rw [thenA_eq] at h
    cases hq : codeA x P fr s e A with
    | stuck l => rw [hq] at h; cases h
    | done x1 e1 A1 =>
      rw [hq] at h
      obtain ⟨k1, m1, r1⟩ := (ihx hok.1).1 e A hke _ _ _ hq
      cases x1 with
      | normal =>
        simp only at h
        obtain ⟨k2, m2, r2⟩ := (ihy hok.2).1 e1 A1 k1 _ _ _ h
        refine ⟨k2, Nat.le_trans m1 m2, fun ρ w a hr he hwin hn hd Q hQ => wpIn_seq ?_⟩
        refine r1 ρ w a hr he (hwin.left m2) hn hd _ fun ρ1 a1 w1 q1 q2 q3 q4 => ?_
        exact r2 ρ1 w1 a1 q2.hr q1 (q2.winNext hwin) q3 q4 Q fun ρ2 a2 w2 p1 p2 p3 p4 => hQ ρ2 a2 w2 p1 (q2.trans p2) p3 p4
      | exit j =>
        injection h with h1 h2 h3
        subst h1; subst h2; subst h3
        exact ⟨k1, m1, fun ρ w a hr he hwin hn hd Q hQ => wpIn_seq (r1 ρ w a hr he hwin hn hd _ hQ)⟩
      | ret =>
        injection h with h1 h2 h3
        subst h1; subst h2; subst h3
        exact ⟨k1, m1, fun ρ w a hr he hwin hn hd Q hQ => wpIn_seq (r1 ρ w a hr he hwin hn hd _ hQ)⟩
  | cond v x y ihx ihy =>
    intro hok hbk hro
    have ihx := fun h => ihx h (hbk.sub (fun _ _ h => .inl h) (fun _ _ _ h => .inl h)) (hro.imp id fun h => by simp only [noRF, Bool.and_eq_true] at h; exact h.1)
    have ihy := fun h => ihy h (hbk.sub (fun _ _ h => .inr h) (fun _ _ _ h => .inr h)) (hro.imp id fun h => by simp only [noRF, Bool.and_eq_true] at h; exact h.2)
    simp only [codeOK, Bool.and_eq_true] at hok
    refine ⟨fun e A hke x' e' A' h => ?_, fun b hb => by cases hb⟩
    have h : condA (opnd v e) (codeA x P fr s e A) (codeA y P fr s e A) = .done x' e' A' := h
    unfold condA at h
    split at h
    · rename_i t ht
      rw [brec] at h
      have hc : ∀ ρ (a : Act), ER ρ e a → a.eval v = .bool t := fun ρ a he => by
        have := opnd_sound (ρ := ρ) (e := e) (a := a) (x := v) fun t _ => he t
        rw [ht] at this; exact this
      cases t with
      | true =>
        simp only [if_true] at h
        obtain ⟨k1, m1, r1⟩ := (ihx hok.1).1 e A hke _ _ _ h
        exact ⟨k1, m1, fun ρ w a hr he hwin hn hd Q hQ => wpIn_cond_true (hc ρ a he) (r1 ρ w a hr he hwin hn hd Q hQ)⟩
      | false =>
        simp only [Bool.false_eq_true, if_false] at h
        obtain ⟨k1, m1, r1⟩ := (ihy hok.2).1 e A hke _ _ _ h
        exact ⟨k1, m1, fun ρ w a hr he hwin hn hd Q hQ => wpIn_cond_false (hc ρ a he) (r1 ρ w a hr he hwin hn hd Q hQ)⟩
    · cases h
  | block id x ihx =>
    intro hok hbk hro
    have ihx := fun h => ihx h (hbk.sub (fun _ _ h => .inr h) (fun _ _ _ h => h)) hro
    refine ⟨fun e A => ?_, fun b hb => by cases hb⟩
    have hcode : codeA (.block id x) P fr s e A = (match findL fr.blks id with | some g => g e A | none => blockA id (codeA x P fr s e A)) := by
      show Option.rec (motive := fun _ => R) (blockA id (codeA x P fr s e A)) (fun g => g e A) (findL fr.blks id) = _
      cases findL fr.blks id <;> rfl
    rw [hcode]
    cases hg : findL fr.blks id with
    | some g => exact hbk.blk id g x hg (.inl ⟨rfl, rfl⟩) e A F N hF
    | none =>
    intro hke x' e' A' h
    have h : blockA id (codeA x P fr s e A) = .done x' e' A' := h
    rw [blockA_eq] at h
    cases hq : codeA x P fr s e A with
    | stuck l => rw [hq] at h; cases h
    | done x1 e1 A1 =>
      rw [hq] at h
      obtain ⟨k1, m1, r1⟩ := (ihx hok).1 e A hke _ _ _ hq
      cases x1 with
      | normal =>
        injection h with h1 h2 h3
        subst h1; subst h2; subst h3
        exact ⟨k1, m1, fun ρ w a hr he hwin hn hd Q hQ => wpIn_block (r1 ρ w a hr he hwin hn hd _ hQ)⟩
      | exit j =>
        simp only at h
        split at h
        · rename_i hj
          injection h with h1 h2 h3
          subst h1; subst h2; subst h3
          refine ⟨k1, m1, fun ρ w a hr he hwin hn hd Q hQ => wpIn_block (r1 ρ w a hr he hwin hn hd _ fun ρ' a' w' q1 q2 q3 q4 => ?_)⟩
          show Exit.inBlock id Q (.exit j) a' w'
          simp only [Exit.inBlock, hj, if_true]
          exact hQ ρ' a' w' q1 q2 q3 q4
        · rename_i hj
          injection h with h1 h2 h3
          subst h1; subst h2; subst h3
          refine ⟨k1, m1, fun ρ w a hr he hwin hn hd Q hQ => wpIn_block (r1 ρ w a hr he hwin hn hd _ fun ρ' a' w' q1 q2 q3 q4 => ?_)⟩
          show Exit.inBlock id Q (.exit j) a' w'
          simp only [Exit.inBlock, hj, if_false]
          exact hQ ρ' a' w' q1 q2 q3 q4
      | ret =>
        injection h with h1 h2 h3
        subst h1; subst h2; subst h3
        exact ⟨k1, m1, fun ρ w a hr he hwin hn hd Q hQ => wpIn_block (r1 ρ w a hr he hwin hn hd _ hQ)⟩
  | loop x ihx =>
    intro hok hbk hro
    have ihx := fun h => ihx h (hbk.sub (fun _ _ h => h) (fun _ _ _ h => h)) hro
    have hokx : codeOK n fr x = true := hok
    have key : ∀ e A, RunOK fr n (LWp F N P x) e A (codeA (.loop x) P fr s e A) := by
      intro e A hke x' e' A' h
      have h : thenA (codeA x P fr s e A) (s.loop fr (.loop x)) = .done x' e' A' := h
      rw [thenA_eq] at h
      cases hq : codeA x P fr s e A with
      | stuck l => rw [hq] at h; cases h
      | done x1 e1 A1 =>
        rw [hq] at h
        obtain ⟨k1, m1, r1⟩ := (ihx hokx).1 e A hke _ _ _ hq
        cases x1 with
        | normal =>
          simp only at h
          obtain ⟨k2, m2, r2⟩ := hl fr n x hokx (hbk.sub (fun _ _ h => h) (fun _ _ _ h => h)) e1 A1 F N hF hro k1 _ _ _ h
          refine ⟨k2, Nat.le_trans m1 m2, fun ρ w a hr he hwin hn hd Q hQ => LWp.step ?_⟩
          refine r1 ρ w a hr he (hwin.left m2) hn hd _ fun ρ1 a1 w1 q1 q2 q3 q4 => ?_
          exact r2 ρ1 w1 a1 q2.hr q1 (q2.winNext hwin) q3 q4 Q fun ρ2 a2 w2 p1 p2 p3 p4 => hQ ρ2 a2 w2 p1 (q2.trans p2) p3 p4
        | exit j =>
          injection h with h1 h2 h3
          subst h1; subst h2; subst h3
          exact ⟨k1, m1, fun ρ w a hr he hwin hn hd Q hQ => LWp.step (r1 ρ w a hr he hwin hn hd _ hQ)⟩
        | ret =>
          injection h with h1 h2 h3
          subst h1; subst h2; subst h3
          exact ⟨k1, m1, fun ρ w a hr he hwin hn hd Q hQ => LWp.step (r1 ρ w a hr he hwin hn hd _ hQ)⟩
    refine ⟨fun e A hke x' e' A' h => ?_, fun b hb => by cases hb; exact key⟩
    obtain ⟨k1, m1, r1⟩ := key e A hke _ _ _ h
    exact ⟨k1, m1, fun ρ w a hr he hwin hn hd Q hQ => (r1 ρ w a hr he hwin hn hd Q hQ).loop⟩
  | exit j =>
    intro _ _ _
    refine ⟨fun e A hke x e' A' h => ?_, fun b hb => by cases hb⟩
    injection h with h1 h2 h3
    subst h1; subst h2; subst h3
    exact ⟨hke, Nat.le_refl _, fun ρ w a hr he _ hn hd Q hQ => wpIn_exit (hQ ρ a w he (Step.refl hr) hn hd)⟩
  | label j =>
    intro _ _ _
    refine ⟨fun e A hke x e' A' h => ?_, fun b hb => by cases hb⟩
    injection h with h1 h2 h3
    subst h1; subst h2; subst h3
    exact ⟨hke, Nat.le_refl _, fun ρ w a hr he _ hn hd Q hQ => wpIn_label (hQ ρ a w he (Step.refl hr) hn hd)⟩
  | ret =>
    intro _ _ _
    refine ⟨fun e A hke x e' A' h => ?_, fun b hb => by cases hb⟩
    injection h with h1 h2 h3
    subst h1; subst h2; subst h3
    exact ⟨hke, Nat.le_refl _, fun ρ w a hr he _ hn hd Q hQ => wpIn_ret (hQ ρ a w he (Step.refl hr) hn hd)⟩
  | rangeFunc g ps x y _ _ =>
    intro hok hbk hro
    refine ⟨fun e A => ?_, fun b hb => by cases hb⟩
    exact rangeF_sound hF hs (hro.resolve_right (by simp [noRF])) (fun e he => hbk.rf ps x y (.inl ⟨rfl, rfl, rfl⟩) e he) e A
  | scope x _ => intro _ _ _; exact ⟨fun e A hke x e' A' h => (by cases h), fun b hb => (by cases hb)⟩
  | goto j => intro _ _ _; exact ⟨fun e A hke x e' A' h => (by cases h), fun b hb => (by cases hb)⟩
  | refuse y => intro _ _ _; exact ⟨fun e A hke x e' A' h => (by cases h), fun b hb => (by cases hb)⟩

end Go.Ab

namespace Go.Ab
open Go
variable {P : Program} [LoopTab]

theorem loadA_ptr {A : AH} {T : TypeId} {x r : AV} (h : loadA P A T x = some r) : ∃ β o, x = .ptr β o := by
  unfold loadA at h
  split at h
  · exact ⟨_, _, rfl⟩
  · cases h

theorem resultA_sound {A : AH} {ρ : Rho} {w : World} {e : En} {a : Act} (hr : HR A ρ w) (he : ER ρ e a) {r : ResultVar} {v : AV} (h : resultA P e A r = some v) :
    ∃ val, (match r with | .tmp t => (pure (a.tmps.getD t undef) : Sem Value) | .cell x t => do loadVar t (← asAddr (a.tmps.getD x undef))).run P w = .ok val w ∧ VR ρ v val := by
  cases r with
  | tmp t =>
    cases some_inj h
    exact ⟨_, rfl, he t⟩
  | cell x T =>
    have h : loadA P A T (e.get x) = some v := h
    obtain ⟨val, h1, h2⟩ := loadA_sound hr (he x) h
    obtain ⟨β, o, hx⟩ := loadA_ptr h
    have hv := he x
    rw [hx] at hv
    obtain ⟨b, base, sz, _, hv⟩ := hv
    refine ⟨val, ?_, h2⟩
    have e1 : a.tmps.getD x undef = .pointer (some ⟨b, base + o, none⟩) := hv
    have e2 : a.eval (.tmp x) = .pointer (some ⟨b, base + o, none⟩) := hv
    rw [e2] at h1
    simp only [e1, asAddr]
    simpa [Instr.loadAt, Instr.sureAddr] using h1

theorem resultsA_sound {A : AH} {ρ : Rho} {w : World} {e : En} {a : Act} (hr : HR A ρ w) (he : ER ρ e a) : ∀ (l : List ResultVar) (vs : List AV), resultsA P e A l = some vs →
    ∃ us : List Value, (l.mapM fun (r : ResultVar) => (match r with | .tmp t => (pure (a.tmps.getD t undef) : Sem Value) | .cell x t => do loadVar t (← asAddr (a.tmps.getD x undef)))).run P w = .ok us w ∧ VRs ρ vs us
  | [], vs, h => by cases some_inj h; exact ⟨[], rfl, trivial⟩
  | r :: l, vs, h => by
    simp only [resultsA] at h
    split at h
    · rename_i v vs' h1 h2
      cases some_inj h
      obtain ⟨val, q1, q2⟩ := resultA_sound hr he h1
      obtain ⟨us, q3, q4⟩ := resultsA_sound hr he l vs' h2
      refine ⟨val :: us, ?_, q2, q4⟩
      rw [List.mapM_cons, Sem.run_bind, q1]
      simp only [Result.andThen_ok, Sem.run_bind, q3, Sem.run_pure]
    · cases h

/-- A function of the table. -/
structure RecOK (P : Program) (f : FuncId) (fr : FRec) : Prop where
  id : fr.id = f
  fn : ∃ fn, P.funcs[f]? = some fn ∧ (fn.name == "runtime.NumGoroutine") = false ∧ fn.body = some fr.body ∧ fn.results = fr.results ∧ codeOK fn.ntmps fr fr.body = true ∧ BlksOK P fr fn.ntmps fr.body

theorem bindArgs_get {m t : Nat} : ∀ (l : List AV) (i : Nat), (bindArgs m i l).get t = .any ∨ (kept m t = true ∧ ∃ k v, t = i + k ∧ l[k]? = some v ∧ (bindArgs m i l).get t = v)
  | [], i => .inl rfl
  | v :: r, i => by
    have e1 : bindArgs m i (v :: r) = if kept m i = true then .bind i v (bindArgs m (Nat.succ i) r) else bindArgs m (Nat.succ i) r := by
      show Bool.rec (motive := fun _ => En) (bindArgs m (Nat.succ i) r) (.bind i v (bindArgs m (Nat.succ i) r)) (kept m i) = _
      rw [brec]
    have ih := bindArgs_get (m := m) (t := t) r (Nat.succ i)
    have next : (bindArgs m (Nat.succ i) r).get t = .any ∨ (kept m t = true ∧ ∃ k u, t = i + k ∧ (v :: r)[k]? = some u ∧ (bindArgs m (Nat.succ i) r).get t = u) := by
      rcases ih with h | ⟨h1, k, u, h2, h3, h4⟩
      · exact .inl h
      · exact .inr ⟨h1, k + 1, u, by omega, by simpa using h3, h4⟩
    rw [e1]
    split
    · rename_i hk
      rw [En.get_bind]
      split
      · rename_i e
        subst e
        exact .inr ⟨hk, 0, v, rfl, rfl, rfl⟩
      · exact next
    · exact next

theorem bindArgs_KE (m : Nat) (l : List AV) (i : Nat) : KE m (bindArgs m i l) := fun t ht => by
  rcases bindArgs_get (m := m) (t := t) l i with h | ⟨h, _⟩
  · exact h
  · rw [ht] at h; cases h

theorem bindArgs_ER {ρ : Rho} {m : Nat} {l : List AV} {argv : Array Value} (h : VRs ρ l argv.toList) (k : Nat) (d : List Deferred) : ER ρ (bindArgs m 0 l) { tmps := argv ++ Array.replicate k undef, defers := d } := fun t => by
  rcases bindArgs_get (m := m) (t := t) l 0 with h1 | ⟨_, j, v, h2, h3, h4⟩
  · rw [h1]; trivial
  · rw [h4]
    rw [Nat.zero_add] at h2
    subst h2
    obtain ⟨u, q1, q2⟩ := VRs.get h t v h3
    have q1' : argv[t]? = some u := by simpa using q1
    have hlt := (Array.getElem?_eq_some_iff.1 q1').1
    show VR ρ v ((argv ++ Array.replicate k undef).getD t undef)
    rw [Array.getD_eq_getD_getElem?, Array.getElem?_append_left hlt, q1']
    exact q2

theorem tag_done {f : Nat} {r : CR} {v : AV} {A : AH} (h : tag f r = .done v A) : r = .done v A := by
  cases r with
  | stuck l => cases h
  | done v' A' => exact h

/-- Marks are taken away at a function's end. -/
theorem Step.put_unowned {A A' : AH} {ρ ρ' : Rho} {w w' : World} (h : Step A ρ w A' ρ' w') {r : Nat} (hr : w.heap.size ≤ r) (hu : Unowned A' ρ' r) (x : Obj) : Step A ρ w A' ρ' (w'.putObj r x) where
  le := h.le
  win := h.win
  next := h.next
  hr := ⟨fun β y hy => by
      obtain ⟨b, base, sz, h1, h2⟩ := h.hr.obj β y hy
      refine ⟨b, base, sz, h1, ?_⟩
      by_cases hl : y.seen = true
      · exact h2.congr (fun _ _ h => h) (by rw [World.putObj_size]; exact Nat.le_refl _) (World.putObj_heap_other (fun e => hu β y _ hy hl h1 e))
      · cases y <;> first | exact trivial | exact absurd rfl hl, h.hr.inj, h.hr.top⟩
  size := by rw [World.putObj_size]; exact h.size
  same := fun b hb hn => (World.putObj_heap_other (by omega)).trans (h.same b hb hn)
  img := h.img
  os := h.os
  output := h.output
  tape := h.tape

theorem leaves_marks {fn : Func} {tmps : Array Value} {A A' : AH} {ρ ρ' : Rho} {w : World} {R : Ending → World → Prop} (hend : ∀ w', Step A ρ w A' ρ' w' → ∃ val, (results fn tmps).run P w' = .ok val w' ∧ R (.returned val) w') :
    ∀ (rs : List Nat) (w' : World) (ds : List Deferred), Step A ρ w A' ρ' w' → (ds = rs.map (fun r => { target := .collected r, args := #[] }) ∧ rs.Nodup ∧ ∀ r ∈ rs, w.heap.size ≤ r ∧ w'.heap[r]? = some (.deferred (some [])) ∧ Unowned A' ρ' r) →
      LeavesInM Fence.wide 0 P fn tmps R ds .returning w'
  | [], w', ds, hs, ⟨h1, _, _⟩ => by
    subst h1
    obtain ⟨val, q1, q2⟩ := hend w' hs
    show LeavesIn Fence.wide 0 P fn tmps R [] .returning w'
    exact ⟨val, q1, q2⟩
  | r :: rs, w', ds, hs, ⟨h1, h2, h3⟩ => by
    subst h1
    obtain ⟨g1, g2, g3⟩ := h3 r List.mem_cons_self
    have hn := List.nodup_cons.1 h2
    refine ⟨by simp, .inl ⟨r, w'.putObj r (.deferred none), rfl, run_takeDeferred g2, ?_⟩⟩
    refine leaves_marks hend rs _ _ (hs.put_unowned g1 g3 _) ⟨rfl, hn.2, fun q hq => ?_⟩
    obtain ⟨k1, k2, k3⟩ := h3 q (List.mem_cons_of_mem _ hq)
    exact ⟨k1, (World.putObj_heap_other (fun e => hn.1 (by first | (rw [e]; exact hq) | (rw [← e]; exact hq)))).trans k2, k3⟩

omit [LoopTab] in
theorem monoA_done {n : Nat} {r : CR} {v : AV} {A : AH} (h : monoA n r = .done v A) : n ≤ A.next ∧ r = .done v A := by
  cases r with
  | stuck l => cases h
  | done v' A' =>
    simp only [monoA] at h
    split at h
    · rename_i hb
      injection h with h1 h2; subst h1; subst h2
      rw [nble] at hb
      exact ⟨by simpa using hb, rfl⟩
    · cases h

theorem call_sound {s : Self} (hs : CallsOK P s) (hl : LoopsOK P s) (hm : P.follows .mixedOrders = true) {f : FuncId} {fr : FRec} (hf : RecOK P f fr) (args : List AV) (A : AH) :
    CallOK P f args A (endA P fr (codeA fr.body P fr s (bindArgs fr.keep 0 args) A)) := by
  obtain ⟨fn, f1, f2, f3, f4, f5, f6⟩ := hf.fn
  intro v A' h
  cases hq : codeA fr.body P fr s (bindArgs fr.keep 0 args) A with
  | stuck l => rw [hq] at h; cases h
  | done x e1 A1 =>
    rw [hq] at h
    obtain ⟨k1, m1, r1⟩ := (code_sound Free.wide (N := 0) hs hl hm fr fn.ntmps fr.body f5 f6 (.inl rfl)).1 (bindArgs fr.keep 0 args) A (bindArgs_KE _ _ _) _ _ _ hq
    have hx : (x = .normal ∨ x = .ret) ∧ ∃ vs, resultsA P e1 A1 fr.results.toList = some vs ∧ A' = A1 ∧ ((∃ u, vs = [u] ∧ v = u) ∨ ((∀ u, vs ≠ [u]) ∧ v = .tup vs)) := by
      cases x with
      | exit j => cases h
      | normal =>
        simp only [endA] at h
        split at h
        · rename_i u hu
          injection h with h1 h2
          exact ⟨.inl rfl, _, hu, h2.symm, .inl ⟨u, rfl, h1.symm⟩⟩
        · rename_i vs hne hu
          injection h with h1 h2
          exact ⟨.inl rfl, _, hu, h2.symm, .inr ⟨fun u e => hne u (by rw [e]), h1.symm⟩⟩
        · cases h
      | ret =>
        simp only [endA] at h
        split at h
        · rename_i u hu
          injection h with h1 h2
          exact ⟨.inr rfl, _, hu, h2.symm, .inl ⟨u, rfl, h1.symm⟩⟩
        · rename_i vs hne hu
          injection h with h1 h2
          exact ⟨.inr rfl, _, hu, h2.symm, .inr ⟨fun u e => hne u (by rw [e]), h1.symm⟩⟩
        · cases h
    obtain ⟨hxx, vs, hres, rfl, hv⟩ := hx
    refine ⟨m1, ⟨fn, fr.body, f1, f2, f3⟩, fun ρ w argv hr ha hwin => ?_⟩
    refine callsIn_wide.1 (callsIn_of_wp_marks (F := Fence.wide) (n := 0) f1 f3 trivial ?_)
    refine r1 (B := w.heap.size) ρ w _ hr (bindArgs_ER ha _ _) hwin (by simp; omega) (Marks.nil (Nat.le_refl _)) _ fun ρ' a' w' q1 q2 q3 q4 => ?_
    have hend : ∀ w'', Step A ρ w A' ρ' w'' → ∃ val, (results fn a'.tmps).run P w'' = .ok val w'' ∧ ∃ u ρ'', Ending.returned val = .returned u ∧ VR ρ'' v u ∧ Step A ρ w A' ρ'' w'' := by
      intro w'' q2
      obtain ⟨us, g1, g2⟩ := resultsA_sound (P := P) q2.hr q1 fr.results.toList vs hres
      refine ⟨if h : us.toArray.size = 1 then us.toArray[0] else .tuple us.toArray, ?_, _, ρ', rfl, ?_, q2⟩
      · unfold results
        rw [f4, Array.mapM_eq_mapM_toList]
        simp only [Sem.run_bind, Sem.run_map, Sem.run_pure]
        exact congrArg (fun r : Result (List Value) => (r.andThen fun a w' => Result.ok a.toArray w').andThen fun a w' => Result.ok (if h : a.size = 1 then a[0] else Value.tuple a) w') g1
      · have hlen := VRs.length g2
        rcases hv with ⟨u, rfl, rfl⟩ | ⟨hne, rfl⟩
        · cases us with
          | nil => simp at hlen
          | cons y us =>
            cases us with
            | nil => simpa using g2.1
            | cons z us => simp at hlen
        · have hne1 : ¬ (us.toArray.size = 1) := fun e => by
            cases vs with
            | nil => simp at hlen e; omega
            | cons y vs =>
              cases vs with
              | nil => exact hne y rfl
              | cons z vs => simp at hlen e; omega
          rw [dif_neg hne1]
          exact ⟨_, rfl, g2⟩
    have hleave := leaves_marks (fn := fn) (tmps := a'.tmps) (R := fun e w' => ∃ val ρ', e = .returned val ∧ VR ρ' v val ∧ Step A ρ w A' ρ' w') (fun w'' hs => by
      obtain ⟨val, h1, h2⟩ := hend w'' hs
      exact ⟨val, h1, h2⟩) q4.2.choose w' a'.defers q2 q4.2.choose_spec
    rcases hxx with rfl | rfl
    · exact hleave
    · exact hleave

/-- Rounds. -/
theorem bindYield_some {keep n : Nat} {ρ : Rho} : ∀ (ps : List Nat) (args : List AV) (e e' : En) (tmps : Array Value) (argv : List Value), bindYield keep ps args e = some e' → (∀ t ∈ ps, t < n) → n ≤ tmps.size → VRs ρ args argv → KE keep e → (∀ t, VR ρ (e.get t) (tmps.getD t undef)) →
    ps.length = argv.length ∧ KE keep e' ∧ ((ps.zip argv).foldl (fun t p => t.setIfInBounds p.1 p.2) tmps).size = tmps.size ∧ ∀ t, VR ρ (e'.get t) (((ps.zip argv).foldl (fun t p => t.setIfInBounds p.1 p.2) tmps).getD t undef)
  | [], [], e, e', tmps, argv, h, _, _, hv, hk, he => by
    cases some_inj h
    cases argv with
    | nil => exact ⟨rfl, hk, rfl, he⟩
    | cons => exact hv.elim
  | t :: ts, x :: xs, e, e', tmps, argv, h, hp, hn, hv, hk, he => by
    cases argv with
    | nil => exact hv.elim
    | cons v vs =>
      have h : bindYield keep ts xs (Bool.rec (motive := fun _ => En) e (.bind t x e) (kept keep t)) = some e' := h
      rw [brec] at h
      have ht := hp t List.mem_cons_self
      have hget : ∀ u, (tmps.setIfInBounds t v).getD u undef = if u = t then v else tmps.getD u undef := fun u => by
        rw [Array.getD_eq_getD_getElem?, Array.getD_eq_getD_getElem?, Array.getElem?_setIfInBounds]
        by_cases hu : u = t
        · subst hu
          have : u < tmps.size := by omega
          simp [this]
        · have : ¬ t = u := fun e => hu e.symm
          simp [hu, this]
      obtain ⟨h1, h2, h3, h4⟩ := bindYield_some ts xs _ e' (tmps.setIfInBounds t v) vs h (fun u hu => hp u (List.mem_cons_of_mem _ hu)) (by rw [Array.size_setIfInBounds]; exact hn) hv.2 (by
        intro u hu
        split
        · rename_i hkt
          rw [En.get_bind]
          split
          · rename_i e; subst e; rw [hkt] at hu; cases hu
          · exact hk u hu
        · exact hk u hu) (fun u => by
        rw [hget]
        split
        · rw [En.get_bind]
          split
          · exact hv.1
          · exact he u
        · rename_i hkt
          split
          · rename_i e; subst e
            rw [hk u (by simpa using hkt)]; trivial
          · exact he u)
      exact ⟨by simp [h1], h2, by rw [List.zip_cons_cons, List.foldl_cons, h3, Array.size_setIfInBounds], by rw [List.zip_cons_cons, List.foldl_cons]; exact h4⟩
  | [], _ :: _, e, e', tmps, argv, h, _, _, _, _, _ => by cases h
  | _ :: _, [], e, e', tmps, argv, h, _, _, _, _, _ => by cases h

/-- What is known of the table's ranges over functions. -/
def TabOK (P : Program) (F : FuncId → Option FRec) : Prop := ∀ f ps as bd e n, LoopTab.ok f ps as bd e n → ∃ fr, F f = some fr ∧ KE fr.keep e ∧ (∀ t ∈ ps, t < n) ∧ codeOK n fr as = true ∧ codeOK n fr bd = true ∧ noRF as = true ∧ noRF bd = true ∧ BlksOK P fr n as ∧ BlksOK P fr n bd

theorem yield_end {F : FuncId → Option FRec} {s : Self} (hs : CallsOK P s) (hl : LoopsOK P s) (hm : P.follows .mixedOrders = true) (hT : TabOK P F) {β : Nat} {args : List AV} {A A' A2 A3 : AH} {f f2 f3 : FuncId} {ps ps2 ps3 : List Nat} {as as2 as3 bd bd2 bd3 : Code} {e0 e02 e03 e1 e2 e3 : En} {st0 st3 : LoopState} {pend0 pend2 pend3 : Option Ex} {fr : FRec} {v : AV} {x3 : Ex}
    (hget : A.get β = some (.loop f ps as bd e0 st0 pend0)) (hfr : F f = some fr) (hb : bindYield fr.keep ps args e0 = some e1) (hq1 : codeA as P fr s e1 A = .done .normal e2 A2) (hg2 : A2.get β = some (.loop f2 ps2 as2 bd2 e02 .ready pend2))
    (hq3 : codeA bd P fr s e2 (A2.put β (.loop f2 ps2 as2 bd2 e02 .busy pend2)) = .done x3 e3 A3) (hg3 : A3.get β = some (.loop f3 ps3 as3 bd3 e03 st3 pend3))
    (h : (match x3 with | .normal => CR.done (.bool true) (A3.put β (.loop f3 ps3 as3 bd3 e03 .ready none)) | x => .done (.bool false) (A3.put β (.loop f3 ps3 as3 bd3 e03 .done (some x)))) = .done v A') :
    ∀ F N, Free F → ∀ ρ w argv b x y, HR A ρ w → VRs ρ args argv.toList → Win A.next A'.next ρ → ρ β = some (b, x, y) →
      ∃ fn tmps as bd, (Instr.yield b argv).run P w = .ok (.round b fn tmps as bd) w ∧ RoundIn F N P b fn tmps as bd w fun e w' => ∃ val ρ', e = .returned val ∧ VR ρ' v val ∧ Step A ρ w A' ρ' w' := by
  have hA' : A'.next = A3.next ∧ ∃ st pend jump, A' = A3.put β (.loop f3 ps3 as3 bd3 e03 st pend) ∧ v = .bool (Option.isNone jump) ∧ st = (if Option.isNone jump then .ready else .done) ∧ pend.map exCode = jump ∧ (x3 = .normal ∧ jump = none ∨ x3 ≠ .normal ∧ jump = some (exCode x3)) := by
    cases x3 with
    | normal => injection h with h1 h2; subst h1; subst h2; exact ⟨rfl, _, _, none, rfl, rfl, rfl, rfl, .inl ⟨rfl, rfl⟩⟩
    | exit j => injection h with h1 h2; subst h1; subst h2; exact ⟨rfl, _, _, some (.exit j), rfl, rfl, rfl, rfl, .inr ⟨by simp, rfl⟩⟩
    | ret => injection h with h1 h2; subst h1; subst h2; exact ⟨rfl, _, _, some .ret, rfl, rfl, rfl, rfl, .inr ⟨by simp, rfl⟩⟩
  obtain ⟨hnext, st', pend', jump, hAe, hv, hst', hpend', hx3⟩ := hA'
  intro Fe N hFe ρ w argv b x y hr ha hwin hρ
  obtain ⟨b', base', sz', k1, r, n, k2, rfl, rfl, rfl, k6, k7, k8, k9, k10⟩ := hr.obj _ _ hget
  rw [hρ] at k1; injection k1 with k1; simp at k1; obtain ⟨rfl, rfl, rfl⟩ := k1
  obtain ⟨fr', hfr', t1, t2, t3, t4, t5, t6, t7, t8⟩ := hT _ _ _ _ _ _ k8
  rw [hfr] at hfr'; injection hfr' with hfr'; subst hfr'
  obtain ⟨b1, b2, b3, b4⟩ := bindYield_some r.params.toList args e0 e1 r.tmps argv.toList hb t2 k9 ha t1 k10
  have hfold : (r.params.toList.zip argv.toList).foldl (fun t p => t.setIfInBounds p.1 p.2) r.tmps = (r.params.zip argv).foldl (fun tmps (t, a) => tmps.setIfInBounds t a) r.tmps := by
    rw [← Array.foldl_toList, Array.toList_zip]
  rw [hfold] at b3 b4
  have hro : (Fe.inRound b).round = none ∨ noRF r.assign = true := .inr t5
  have hFr : Free (Fe.inRound b) := by rw [hFe.round]; exact Free.inRound b
  obtain ⟨c1, c2, c3⟩ := (code_sound hFr (N := N) hs hl hm fr n r.assign t3 t7 hro).1 e1 A b2 _ _ _ hq1
  obtain ⟨d1, d2, d3⟩ := (code_sound hFr (N := N) hs hl hm fr n r.body t4 t8 (.inr t6)).1 e2 _ c1 _ _ _ hq3
  have d2 : A2.next ≤ A3.next := d2
  refine ⟨_, _, _, _, run_yield k2 (by simpa using b1.symm), roundIn_of_wpIn (hFe.fn _) ?_⟩
  refine c3 (B := 0) ρ w { tmps := (r.params.zip argv).foldl (fun tmps (t, a) => tmps.setIfInBounds t a) r.tmps, defers := [] } hr (fun t => b4 t) (fun β h1 h2 => hwin β h1 (by omega)) (by show n ≤ Array.size _; rw [b3]; exact k9) (Marks.nil (Nat.zero_le _)) _ fun ρ1 a1 w1 q1 q2 q3 q4 => ?_
  have hρ1 := q2.le _ _ hρ
  obtain ⟨b', base', sz', j1, r2, n2, j2, j3, j4, j5, j6, j7, j8, j9, j10⟩ := q2.hr.obj _ _ hg2
  rw [hρ1] at j1; injection j1 with j1; simp at j1; obtain ⟨rfl, rfl, rfl⟩ := j1
  have hlt1 := (Array.getElem?_eq_some_iff.1 j2).1
  refine ⟨_, run_beginRound j2 j6, ?_⟩
  have st2 : Step A2 ρ1 w1 (A2.put β (.loop f2 ps2 as2 bd2 e02 .busy pend2)) ρ1 (w1.putObj b (.loop { r2 with state := .busy })) := by
    refine Step.put q2.hr β _ _ _ _ _ hg2 rfl hρ1 ?_ World.putObj_size (fun b' hb' hne => World.putObj_heap_other hne) ⟨rfl, rfl, rfl⟩
    exact ⟨{ r2 with state := .busy }, n2, World.putObj_heap_same hlt1, j3, j4, j5, rfl, j7, j8, j9, j10⟩
  have st12 := q2.trans st2
  refine d3 (B := 0) ρ1 _ a1 st2.hr q1 (st12.winNext (fun β h1 h2 => hwin β h1 (by omega))) q3 (q4.step st2) _ fun ρ2 a2 w2 p1 p2 p3 _ => ?_
  have hρ2 := p2.le _ _ hρ1
  obtain ⟨b', base', sz', l1, r3, n3, l2, l3, l4, l5, l6, l7, l8, l9, l10⟩ := p2.hr.obj _ _ hg3
  rw [hρ2] at l1; injection l1 with l1; simp at l1; obtain ⟨rfl, rfl, rfl⟩ := l1
  have hlt2 := (Array.getElem?_eq_some_iff.1 l2).1
  have st3 : Step A3 ρ2 w2 A' ρ2 (w2.putObj b (.loop { r3 with state := if Option.isNone jump then .ready else .done, pending := jump })) := by
    rw [hAe]
    refine Step.put p2.hr β _ _ _ _ _ hg3 rfl hρ2 ?_ World.putObj_size (fun b' hb' hne => World.putObj_heap_other hne) ⟨rfl, rfl, rfl⟩
    exact ⟨{ r3 with state := if Option.isNone jump then .ready else .done, pending := jump }, n3, World.putObj_heap_same hlt2, l3, l4, l5, hst'.symm, hpend'.symm, l8, l9, l10⟩
  have hend := run_endRound (P := P) jump l2
  have hfin : ∃ v' w', (Instr.endRound b jump).run P w2 = .ok v' w' ∧ ∃ val ρ', Ending.returned v' = .returned val ∧ VR ρ' v val ∧ Step A ρ w A' ρ' w' :=
    ⟨_, _, hend, _, ρ2, rfl, by rw [hv]; rfl, (st12.trans p2).trans st3⟩
  rcases hx3 with ⟨rfl, rfl⟩ | ⟨hne, rfl⟩
  · exact hfin
  · cases x3 with
    | normal => exact absurd rfl hne
    | exit j => exact hfin
    | ret => exact hfin

theorem yield_sound {F : FuncId → Option FRec} {s : Self} (hs : CallsOK P s) (hl : LoopsOK P s) (hm : P.follows .mixedOrders = true) (hT : TabOK P F) (β : Nat) (args : List AV) (A : AH) : YieldOK P β args A (yieldA P F s β args A) := by
  intro v A' h
  unfold yieldA at h
  split at h
  · rename_i f ps as bd e0 st0 pend0 hget
    split at h
    · rename_i fr hfr
      split at h
      · rename_i e1 hb
        obtain ⟨hmono, h⟩ := monoA_done (tag_done h)
        -- the assignments
        cases hq1 : codeA as P fr s e1 A with
        | stuck l => rw [hq1] at h; cases h
        | done x1 e2 A2 =>
          rw [hq1] at h
          simp only [beginA] at h
          cases x1 with
          | exit j => cases h
          | ret => cases h
          | normal =>
            simp only at h
            cases hg2 : A2.get β with
            | none => rw [hg2] at h; cases h
            | some y2 =>
              rw [hg2] at h
              cases y2 with
              | loop f2 ps2 as2 bd2 e02 st2 pend2 =>
                cases st2 with
                | ready =>
                  simp only at h
                  cases hq3 : codeA bd P fr s e2 (A2.put β (.loop f2 ps2 as2 bd2 e02 .busy pend2)) with
                  | stuck l => rw [hq3] at h; cases h
                  | done x3 e3 A3 =>
                    rw [hq3] at h
                    simp only [roundA] at h
                    cases hg3 : A3.get β with
                    | none => rw [hg3] at h; cases h
                    | some y3 =>
                      rw [hg3] at h
                      cases y3 with
                      | loop f3 ps3 as3 bd3 e03 st3 pend3 =>
                        simp only at h
                        exact ⟨hmono, yield_end hs hl hm hT hget hfr hb hq1 hg2 hq3 hg3 h⟩
                      | _ => cases h
                | _ => cases h
              | _ => cases h
      · cases h
    · cases h
  · cases h

structure TableOK (P : Program) (F : FuncId → Option FRec) : Prop where
  recs : ∀ f fr, F f = some fr → RecOK P f fr
  tab : TabOK P F
def OracleOK (P : Program) (O : Oracle) : Prop := ∀ f args A r, O f args A = some r → CallOK P f args A r

theorem self_sound (hm : P.follows .mixedOrders = true) {F : FuncId → Option FRec} {O : Oracle} (hF : TableOK P F) (hO : OracleOK P O) : ∀ n, CallsOK P (selfN P F O n) ∧ LoopsOK P (selfN P F O n)
  | 0 => ⟨⟨fun f args A v A' h => (by cases h), fun β args A v A' h => (by cases h)⟩, fun fr n c _ _ e A _ _ _ _ _ x e' A' h => (by cases h)⟩
  | n + 1 => by
    obtain ⟨hs, hl⟩ := self_sound hm hF hO n
    refine ⟨⟨fun f args A => ?_, fun β args A => yield_sound hs hl hm hF.tab β args A⟩, fun fr k c hok hbk e A Fn N hFn hro => ?_⟩
    · show CallOK P f args A (callA P F O (selfN P F O n) f args A)
      unfold callA
      split
      · rename_i r hg
        exact hO f args A r hg
      · split
        · rename_i fr hfr
          intro v A' h
          exact call_sound hs hl hm (hF.recs f fr hfr) args A v A' (tag_done h)
        · intro v A' h; cases h
    · exact (code_sound hFn hs hl hm fr k (.loop c) hok (hbk.sub (fun _ _ h => h) (fun _ _ _ h => h)) hro).2 c rfl e A

/-- ████ THE EVALUATOR IS RIGHT: what it answers, the program answers, on every tape. -/
theorem eval_sound (hm : P.follows .mixedOrders = true) {F : FuncId → Option FRec} {O : Oracle} (hF : TableOK P F) (hO : OracleOK P O) {n : Nat} {f : FuncId} {args : List AV} {A : AH} {v : AV} {A' : AH} (h : (selfN P F O n).call f args A = .done v A') :
    CallOK P f args A (.done v A') := by
  rw [← h]; exact (self_sound hm hF hO n).1.call f args A
end Go.Ab
namespace Go.Ab
open Go

/-- The ranges over functions of a table. -/
@[reducible] def loopTab (P : Program) (F : FuncId → Option FRec) : LoopTab := ⟨fun f ps as bd e n => ∃ fr psA fn, F f = some fr ∧ psA.toList = ps ∧ KE fr.keep e ∧ HoldsRF psA as bd fr.body ∧ P.funcs[f]? = some fn ∧ fn.ntmps = n⟩

/-- What the kernel looks at of a function of the table. -/
structure RecBase (P : Program) (f : FuncId) (fr : FRec) : Prop where
  id : fr.id = f
  fn : ∃ fn, P.funcs[f]? = some fn ∧ (fn.name == "runtime.NumGoroutine") = false ∧ fn.body = some fr.body ∧ fn.results = fr.results ∧ codeOK fn.ntmps fr fr.body = true

theorem tableOK_of {P : Program} {F : FuncId → Option FRec} (h : ∀ f fr, F f = some fr → RecBase P f fr) (hb : ∀ f fr fn, F f = some fr → P.funcs[f]? = some fn → ∀ id g body, findL fr.blks id = some g → Holds id body fr.body → ∀ e A, ∀ Fe N, Free Fe → @RunOK (loopTab P F) fr fn.ntmps ((Code.block id body).wpIn Fe N P) e A (g e A)) :
    @TableOK (loopTab P F) P F := by
  letI : LoopTab := loopTab P F
  have hblk : ∀ f fr fn, F f = some fr → P.funcs[f]? = some fn → BlksOK P fr fn.ntmps fr.body := fun f fr fn h1 h2 =>
    ⟨fun id g body h3 h4 e A Fe N hFe => hb f fr fn h1 h2 id g body h3 h4 e A Fe N hFe, fun ps x y h3 e he => ⟨fr, ps, fn, by rw [(h f fr h1).id]; exact h1, rfl, he, h3, by rw [(h f fr h1).id]; exact h2, rfl⟩⟩
  refine ⟨fun f fr hf => ?_, fun f ps as bd e n hok => ?_⟩
  · obtain ⟨fn, h1, h2, h3, h4, h5⟩ := (h f fr hf).fn
    exact ⟨(h f fr hf).id, fn, h1, h2, h3, h4, h5, hblk f fr fn hf h1⟩
  · obtain ⟨fr, psA, fn, h1, rfl, h3, h4, h5, rfl⟩ := hok
    obtain ⟨fn', g1, g2, g3, g4, g5⟩ := (h f fr h1).fn
    rw [h5] at g1; injection g1 with g1; subst g1
    obtain ⟨k1, k2, k3, k4, k5⟩ := h4.ok _ g5
    have hB := hblk f fr fn h1 h5
    exact ⟨fr, h1, h3, k1, k2, k3, k4, k5, hB.sub (fun _ _ hh => h4.holds _ (.inl hh)) (fun _ _ _ hh => h4.trans _ (.inl hh)), hB.sub (fun _ _ hh => h4.holds _ (.inr hh)) (fun _ _ _ hh => h4.trans _ (.inr hh))⟩

theorem findL_nil {α : Type} (id : Nat) : findL ([] : List (Nat × α)) id = none := rfl

end Go.Ab
