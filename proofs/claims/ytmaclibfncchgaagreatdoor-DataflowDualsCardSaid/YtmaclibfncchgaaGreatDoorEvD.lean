import Derived.Test.YtmaclibfncchgaaGreatDoorEvC
import Derived.IntWalk
set_option linter.all false
namespace Go.Ab
open Go
/-! ### Calls whose answers are kept

A call that was run once, on a heap that holds only what it can reach, answers at every heap that holds the same objects: under new names for what it makes. -/
noncomputable section

def sameK (k k' : IntKind) : Bool := Nat.beq k.ctorIdx k'.ctorIdx
def sameB (a b : Bool) : Bool := match a, b with | true, true => true | false, false => true | _, _ => false
def sameAV : AV → AV → Bool :=
  AV.rec (motive_1 := fun _ => AV → Bool) (motive_2 := fun _ => List AV → Bool)
    (fun y => match y with | .any => true | _ => false)
    (fun b y => match y with | .bool b' => sameB b b' | _ => false)
    (fun k n y => match y with | .int k' n' => (intEq n n').and (sameK k k') | _ => false)
    (fun s y => match y with | .str s' => natsEq s s' | _ => false)
    (fun β o y => match y with | .ptr β' o' => (Nat.beq β β').and (Nat.beq o o') | _ => false)
    (fun y => match y with | .nilptr => true | _ => false)
    (fun β o l c e s y => match y with | .slice β' o' l' c' e' s' => (Nat.beq β β').and ((Nat.beq o o').and ((Nat.beq l l').and ((Nat.beq c c').and ((sameB e e').and (Nat.beq s s'))))) | _ => false)
    (fun y => match y with | .nilslice => true | _ => false)
    (fun β y => match y with | .map β' => Nat.beq β β' | _ => false)
    (fun y => match y with | .nilmap => true | _ => false)
    (fun f _ _ ip ic y => match y with | .func f' p' c' => (Nat.beq f f').and ((ip p').and (ic c')) | _ => false)
    (fun y => match y with | .nilfunc => true | _ => false)
    (fun _ _ => false)
    (fun _ ic y => match y with | .agg c' => ic c' | _ => false)
    (fun _ ic y => match y with | .tup c' => ic c' | _ => false)
    (fun y => match y with | [] => true | _ => false)
    (fun _ _ ia ib y => match y with | [] => false | b :: r => (ia b).and (ib r))
def sameAVs : List AV → List AV → Bool
  | [], [] => true
  | a :: l, b :: r => (sameAV a b).and (sameAVs l r)
  | _, _ => false
/-- New names. -/
def shAV (g : Nat → Nat) : AV → AV :=
  AV.rec (motive_1 := fun _ => AV) (motive_2 := fun _ => List AV) .any (fun b => .bool b) (fun k n => .int k n) (fun s => .str s) (fun β o => .ptr (g β) o) .nilptr
    (fun β o l c e s => .slice (g β) o l c e s) .nilslice (fun β => .map (g β)) .nilmap (fun f _ _ ip ic => .func f ip ic) .nilfunc (fun β => .yieldv (g β)) (fun _ ic => .agg ic) (fun _ ic => .tup ic) [] (fun _ _ ia ib => ia :: ib)
/-- All names are among some. -/
def inAV (q : Nat → Bool) : AV → Bool :=
  AV.rec (motive_1 := fun _ => Bool) (motive_2 := fun _ => Bool) true (fun _ => true) (fun _ _ => true) (fun _ => true) (fun β _ => q β) true
    (fun β _ _ _ _ _ => q β) true (fun β => q β) true (fun _ _ _ ip ic => ip.and ic) true (fun β => q β) (fun _ ic => ic) (fun _ ic => ic) true (fun _ _ ia ib => ia.and ib)
def inAVs (q : Nat → Bool) : List AV → Bool
  | [] => true
  | a :: l => (inAV q a).and (inAVs q l)
def shAVs (g : Nat → Nat) : List AV → List AV
  | [] => []
  | a :: l => shAV g a :: shAVs g l
def sameE : List (AV × AV × Nat) → List (AV × AV × Nat) → Bool
  | [], [] => true
  | (a, b, n) :: l, (a', b', n') :: l' => (sameAV a a').and ((sameAV b b').and ((Nat.beq n n').and (sameE l l')))
  | _, _ => false
def sameU : List (AV × AV) → List (AV × AV) → Bool
  | [], [] => true
  | (a, b) :: l, (a', b') :: l' => (sameAV a a').and ((sameAV b b').and (sameU l l'))
  | _, _ => false
def sameO (x y : AObj) : Bool :=
  match x with
  | .cells c => (match y with | .cells c' => sameAVs c c' | _ => false)
  | .map e n => (match y with | .map e' n' => (Nat.beq n n').and (sameE e e') | _ => false)
  | .umap e => (match y with | .umap e' => sameU e e' | _ => false)
  | .ro c => (match y with | .ro c' => sameAVs c c' | _ => false)
  | .dead => (match y with | .dead => true | _ => false)
  | _ => false
def sameOO (x : Option AObj) (y : AObj) : Bool := match x with | some x => sameO x y | none => false
def shE (g : Nat → Nat) : List (AV × AV × Nat) → List (AV × AV × Nat)
  | [] => []
  | (a, b, n) :: l => (shAV g a, shAV g b, n) :: shE g l
def shU (g : Nat → Nat) : List (AV × AV) → List (AV × AV)
  | [] => []
  | (a, b) :: l => (shAV g a, shAV g b) :: shU g l
def shO (g : Nat → Nat) (x : AObj) : AObj :=
  match x with
  | .cells c => .cells (shAVs g c)
  | .ro c => .ro (shAVs g c)
  | .map e n => .map (shE g e) n
  | .umap e => .umap (shU g e)
  | x => x
def inE (q : Nat → Bool) : List (AV × AV × Nat) → Bool
  | [] => true
  | (a, b, _) :: l => (inAV q a).and ((inAV q b).and (inE q l))
def inU (q : Nat → Bool) : List (AV × AV) → Bool
  | [] => true
  | (a, b) :: l => (inAV q a).and ((inAV q b).and (inU q l))
def inO (q : Nat → Bool) (x : AObj) : Bool :=
  match x with
  | .cells c => inAVs q c
  | .ro c => inAVs q c
  | .map e _ => inE q e
  | .umap e => inU q e
  | .dead => true
  | _ => false

/-- A call whose answer is kept: the function, its arguments, the first free name, the objects that it can reach; the value, the names behind it, the objects that are turned or made. -/
structure Memo where
  f : FuncId
  args : List AV
  n0 : Nat
  pre : List (Nat × AObj)
  v : AV
  n1 : Nat
  post : List (Nat × AObj)

def putAll (l : List (Nat × AObj)) (A : AH) : AH := List.rec (motive := fun _ => AH → AH) (fun A => A) (fun p _ ih A => ih (A.put p.1 p.2)) l A
def Memo.small (m : Memo) : AH := putAll m.pre ⟨m.n0, .leaf⟩
def hasK (l : List (Nat × AObj)) (β : Nat) : Bool := List.rec (motive := fun _ => Bool) false (fun p _ ih => (Nat.beq p.1 β).or ih) l
def Memo.known (m : Memo) (β : Nat) : Bool := ((Nat.blt β m.n0).and (hasK m.pre β)).or ((Nat.ble m.n0 β).and (Nat.blt β m.n1))
/-- The answer is as it is kept. -/
def memoOK (r : CR) (m : Memo) : Bool :=
  match r with
  | .stuck _ => false
  | .done v A => (sameAV v m.v).and ((Nat.beq A.next m.n1).and ((m.post.all fun p => sameOO (A.get p.1) p.2).and
      ((m.pre.all fun p => (Nat.blt p.1 m.n0).and ((hasK m.post p.1).or (sameOO (A.get p.1) p.2))).and
      ((inAVs (hasK m.pre) m.args).and ((m.pre.all fun p => inO (hasK m.pre) p.2).and ((inAV m.known m.v).and ((m.post.all fun p => (m.known p.1).and (inO m.known p.2)).and (Nat.ble m.n0 m.n1))))))))
def Memo.sh (m : Memo) (n β : Nat) : Nat := Bool.rec (motive := fun _ => Nat) (Nat.add (Nat.sub β m.n0) n) β (Nat.blt β m.n0)
def Memo.use (m : Memo) (args : List AV) (A : AH) : Option CR :=
  match (sameAVs args m.args).and (m.pre.all fun p => sameOO (A.get p.1) p.2) with
  | true => some (.done (shAV (m.sh A.next) m.v) (putAll (m.post.map fun p => (m.sh A.next p.1, shO (m.sh A.next) p.2)) ⟨Nat.add A.next (Nat.sub m.n1 m.n0), A.t⟩))
  | false => none
/-- The first that fits. -/
def useFirst (l : List Memo) (args : List AV) (A : AH) : Option CR :=
  List.rec (motive := fun _ => Option CR) none (fun m _ ih => Option.rec (motive := fun _ => Option CR) ih (fun r => some r) (m.use args A)) l
end

theorem sameK_eq {k k' : IntKind} (h : sameK k k' = true) : k = k' := by
  unfold sameK at h
  rw [nbeq] at h
  cases k <;> cases k' <;> first | rfl | (simp [IntKind.ctorIdx] at h)
theorem sameB_eq {a b : Bool} (h : sameB a b = true) : a = b := by cases a <;> cases b <;> first | rfl | cases h

theorem sameAV_eq (x : AV) : ∀ y, sameAV x y = true → x = y := by
  refine AV.rec (motive_1 := fun x => ∀ y, sameAV x y = true → x = y) (motive_2 := fun l => ∀ r, (AV.rec_1 (motive_1 := fun _ => AV → Bool) (motive_2 := fun _ => List AV → Bool)
    (fun y => match y with | .any => true | _ => false)
    (fun b y => match y with | .bool b' => sameB b b' | _ => false)
    (fun k n y => match y with | .int k' n' => (intEq n n').and (sameK k k') | _ => false)
    (fun s y => match y with | .str s' => natsEq s s' | _ => false)
    (fun β o y => match y with | .ptr β' o' => (Nat.beq β β').and (Nat.beq o o') | _ => false)
    (fun y => match y with | .nilptr => true | _ => false)
    (fun β o l c e s y => match y with | .slice β' o' l' c' e' s' => (Nat.beq β β').and ((Nat.beq o o').and ((Nat.beq l l').and ((Nat.beq c c').and ((sameB e e').and (Nat.beq s s'))))) | _ => false)
    (fun y => match y with | .nilslice => true | _ => false)
    (fun β y => match y with | .map β' => Nat.beq β β' | _ => false)
    (fun y => match y with | .nilmap => true | _ => false)
    (fun f _ _ ip ic y => match y with | .func f' p' c' => (Nat.beq f f').and ((ip p').and (ic c')) | _ => false)
    (fun y => match y with | .nilfunc => true | _ => false)
    (fun _ _ => false)
    (fun _ ic y => match y with | .agg c' => ic c' | _ => false)
    (fun _ ic y => match y with | .tup c' => ic c' | _ => false)
    (fun y => match y with | [] => true | _ => false)
    (fun _ _ ia ib y => match y with | [] => false | b :: r => (ia b).and (ib r)) l : List AV → Bool) r = true → l = r)
    ?_ ?_ ?_ ?_ ?_ ?_ ?_ ?_ ?_ ?_ ?_ ?_ ?_ ?_ ?_ ?_ ?_ x
  · intro y h; cases y <;> first | rfl | cases h
  · intro b y h; cases y <;> first | (rw [sameB_eq h]) | cases h
  · intro k n y h
    cases y <;> try cases h
    rename_i k' n'
    have h : ((intEq n n').and (sameK k k')) = true := h
    simp only [Bool.and_eq_true, intEq_eq, beq_iff_eq] at h
    rw [h.1, sameK_eq h.2]
  · intro s y h
    cases y <;> try cases h
    rename_i s'
    rw [(natsEq_iff s s').1 h]
  · intro β o y h
    cases y <;> try cases h
    rename_i β' o'
    have h : ((Nat.beq β β').and (Nat.beq o o')) = true := h
    simp only [Bool.and_eq_true, nbeq, decide_eq_true_eq] at h
    rw [h.1, h.2]
  · intro y h; cases y <;> first | rfl | cases h
  · intro β o l c e s y h
    cases y <;> try cases h
    rename_i β' o' l' c' e' s'
    have h : ((Nat.beq β β').and ((Nat.beq o o').and ((Nat.beq l l').and ((Nat.beq c c').and ((sameB e e').and (Nat.beq s s')))))) = true := h
    simp only [Bool.and_eq_true, nbeq, decide_eq_true_eq] at h
    obtain ⟨h1, h2, h3, h4, h5, h6⟩ := h
    rw [h1, h2, h3, h4, sameB_eq h5, h6]
  · intro y h; cases y <;> first | rfl | cases h
  · intro β y h
    cases y <;> try cases h
    rename_i β'
    have h : Nat.beq β β' = true := h
    rw [nbeq] at h
    rw [of_decide_eq_true h]
  · intro y h; cases y <;> first | rfl | cases h
  · intro f p c ip ic y h
    cases y <;> try cases h
    rename_i f' p' c'
    have h := h
    rcases Bool.and_eq_true _ _ ▸ h with ⟨h1, h2⟩
    rcases Bool.and_eq_true _ _ ▸ h2 with ⟨h2, h3⟩
    rw [nbeq] at h1
    rw [of_decide_eq_true h1, ip _ h2, ic _ h3]
  · intro y h; cases y <;> first | rfl | cases h
  · intro β y h; cases h
  · intro c ic y h
    cases y <;> try cases h
    rw [ic _ h]
  · intro c ic y h
    cases y <;> try cases h
    rw [ic _ h]
  · intro r h; cases r <;> first | rfl | cases h
  · intro a l ia il r h
    cases r with
    | nil => cases h
    | cons b r =>
      rcases Bool.and_eq_true _ _ ▸ h with ⟨h1, h2⟩
      rw [ia _ h1, il _ h2]
theorem sameAVs_eq : ∀ {x y : List AV}, sameAVs x y = true → x = y
  | [], [], _ => rfl
  | a :: x, b :: y, h => by
    simp only [sameAVs, Bool.and_eq_true] at h
    rw [sameAV_eq a b h.1, sameAVs_eq h.2]
  | [], _ :: _, h => by cases h
  | _ :: _, [], h => by cases h

/-- New names keep the relation. -/
theorem VR.sh {ρ ρ' : Rho} {g : Nat → Nat} {q : Nat → Bool} (hg : ∀ β l, q β = true → ρ β = some l → ρ' (g β) = some l) (x : AV) : ∀ v, inAV q x = true → VR ρ x v → VR ρ' (shAV g x) v := by
  refine AV.rec (motive_1 := fun x => ∀ v, inAV q x = true → VR ρ x v → VR ρ' (shAV g x) v)
    (motive_2 := fun l => ∀ vs, inAV q (.agg l) = true → VRs ρ l vs → ∃ l', shAV g (.agg l) = .agg l' ∧ VRs ρ' l' vs) ?_ ?_ ?_ ?_ ?_ ?_ ?_ ?_ ?_ ?_ ?_ ?_ ?_ ?_ ?_ ?_ ?_ x
  · intro v _ _; trivial
  · intro b v _ h; exact h
  · intro k n v _ h; exact h
  · intro s v _ h; exact h
  · rintro β o v hq ⟨b, base, sz, h1, h2⟩; exact ⟨b, base, sz, hg _ _ hq h1, h2⟩
  · intro v _ h; exact h
  · rintro β o l c e s v hq h
    rcases h with h | ⟨b, base, sz, o', cap', h1, h2⟩
    · exact .inl h
    · exact .inr ⟨b, base, sz, o', cap', hg _ _ hq h1, h2⟩
  · intro v _ h; exact h
  · rintro β v hq ⟨b, base, sz, h1, h2⟩; exact ⟨b, base, sz, hg _ _ hq h1, h2⟩
  · intro v _ h; exact h
  · rintro f p c ip ic v hq ⟨p', c', h1, h2, h3⟩
    rcases Bool.and_eq_true _ _ ▸ hq with ⟨q1, q2⟩
    obtain ⟨lp, e1, r1⟩ := ip _ q1 h2
    obtain ⟨lc, e2, r2⟩ := ic _ q2 h3
    injection e1 with e1; injection e2 with e2
    exact ⟨p', c', h1, e1 ▸ r1, e2 ▸ r2⟩
  · intro v _ h; exact h
  · rintro β v hq ⟨b, base, sz, h1, h2⟩; exact ⟨b, base, sz, hg _ _ hq h1, h2⟩
  · rintro cs ic v hq ⟨a, h1, h2, h3⟩
    obtain ⟨l', e1, r1⟩ := ic _ hq h2
    rw [e1]
    exact ⟨a, h1, r1, h3⟩
  · rintro cs ic v hq ⟨a, h1, h2⟩
    obtain ⟨l', e1, r1⟩ := ic _ hq h2
    injection e1 with e1
    exact ⟨a, h1, e1 ▸ r1⟩
  · intro vs _ h
    cases vs with
    | nil => exact ⟨[], rfl, trivial⟩
    | cons => exact h.elim
  · intro a l ia il vs hq h
    cases vs with
    | nil => exact h.elim
    | cons v vs =>
      rcases Bool.and_eq_true _ _ ▸ hq with ⟨q1, q2⟩
      obtain ⟨l', e1, r1⟩ := il _ q2 h.2
      injection e1 with e1
      exact ⟨shAV g a :: l', by rw [← e1]; rfl, ia _ q1 h.1, r1⟩
theorem VRs.sh {ρ ρ' : Rho} {g : Nat → Nat} {q : Nat → Bool} (hg : ∀ β l, q β = true → ρ β = some l → ρ' (g β) = some l) : ∀ (l : List AV) vs, inAVs q l = true → VRs ρ l vs → VRs ρ' (shAVs g l) vs
  | [], [], _, _ => trivial
  | a :: l, v :: vs, hq, h => by
    simp only [inAVs, Bool.and_eq_true] at hq
    exact ⟨VR.sh hg a v hq.1 h.1, VRs.sh hg l vs hq.2 h.2⟩
  | [], _ :: _, _, h => h.elim
  | _ :: _, [], _, h => h.elim
theorem sameE_eq : ∀ {x y : List (AV × AV × Nat)}, sameE x y = true → x = y
  | [], [], _ => rfl
  | (a, b, n) :: x, (a', b', n') :: y, h => by
    simp only [sameE, Bool.and_eq_true, nbeq, decide_eq_true_eq] at h
    obtain ⟨h1, h2, h3, h4⟩ := h
    rw [sameAV_eq a a' h1, sameAV_eq b b' h2, h3, sameE_eq h4]
  | [], _ :: _, h => by cases h
  | _ :: _, [], h => by cases h
theorem sameU_eq : ∀ {x y : List (AV × AV)}, sameU x y = true → x = y
  | [], [], _ => rfl
  | (a, b) :: x, (a', b') :: y, h => by
    simp only [sameU, Bool.and_eq_true] at h
    obtain ⟨h1, h2, h4⟩ := h
    rw [sameAV_eq a a' h1, sameAV_eq b b' h2, sameU_eq h4]
  | [], _ :: _, h => by cases h
  | _ :: _, [], h => by cases h
theorem sameO_eq {x y : AObj} (h : sameO x y = true) : x = y := by
  cases x with
  | cells c =>
    cases y <;> try cases h
    rw [sameAVs_eq (x := c) h]
  | ro c =>
    cases y <;> try cases h
    rw [sameAVs_eq (x := c) h]
  | map e n =>
    cases y <;> try cases h
    rename_i e' n'
    have h : ((Nat.beq n n').and (sameE e e')) = true := h
    simp only [Bool.and_eq_true, nbeq, decide_eq_true_eq] at h
    rw [h.1, sameE_eq h.2]
  | umap e =>
    cases y <;> try cases h
    rw [sameU_eq (x := e) h]
  | iter m s seen st => cases h
  | loop f ps as bd e st pend => cases h
  | dead => cases y <;> first | rfl | cases h
theorem sameOO_eq {x : Option AObj} {y : AObj} (h : sameOO x y = true) : x = some y := by
  cases x with
  | none => cases h
  | some x => rw [sameO_eq (x := x) h]

theorem Ents.sh {ρ ρ' : Rho} {g : Nat → Nat} {q : Nat → Bool} (hg : ∀ β l, q β = true → ρ β = some l → ρ' (g β) = some l) : ∀ {es : List (AV × AV × Nat)} {ms : List MapEntry}, inE q es = true → Ents ρ es ms → Ents ρ' (shE g es) ms
  | [], [], _, _ => trivial
  | (k, v, n) :: es, m :: ms, hq, ⟨h1, h2, h3, h4⟩ => by
    simp only [inE, Bool.and_eq_true] at hq
    exact ⟨VR.sh hg _ _ hq.1 h1, VR.sh hg _ _ hq.2.1 h2, h3, Ents.sh hg hq.2.2 h4⟩
  | [], _ :: _, _, h => h.elim
  | _ :: _, [], _, h => h.elim
theorem Ents2.sh {ρ ρ' : Rho} {g : Nat → Nat} {q : Nat → Bool} (hg : ∀ β l, q β = true → ρ β = some l → ρ' (g β) = some l) : ∀ {es : List (AV × AV)} {ms : List MapEntry}, inU q es = true → Ents2 ρ es ms → Ents2 ρ' (shU g es) ms
  | [], [], _, _ => trivial
  | (k, v) :: es, m :: ms, hq, ⟨h1, h2, h4⟩ => by
    simp only [inU, Bool.and_eq_true] at hq
    exact ⟨VR.sh hg _ _ hq.1 h1, VR.sh hg _ _ hq.2.1 h2, Ents2.sh hg hq.2.2 h4⟩
  | [], _ :: _, _, h => h.elim
  | _ :: _, [], _, h => h.elim
theorem shAVs_get (g : Nat → Nat) : ∀ (l : List AV) (i : Nat), (shAVs g l)[i]? = (l[i]?).map (shAV g)
  | [], i => by simp [shAVs]
  | a :: l, 0 => by simp [shAVs]
  | a :: l, i + 1 => by simp [shAVs, shAVs_get g l i]
theorem shAVs_length (g : Nat → Nat) : ∀ (l : List AV), (shAVs g l).length = l.length
  | [] => rfl
  | a :: l => by simp [shAVs, shAVs_length g l]
theorem inAVs_get {q : Nat → Bool} : ∀ {l : List AV} {i : Nat} {a : AV}, inAVs q l = true → l[i]? = some a → inAV q a = true
  | [], i, a, _, h => by simp at h
  | x :: l, 0, a, hq, h => by
    simp only [inAVs, Bool.and_eq_true] at hq
    simp at h; subst h; exact hq.1
  | x :: l, i + 1, a, hq, h => by
    simp only [inAVs, Bool.and_eq_true] at hq
    exact inAVs_get hq.2 (by simpa using h)

variable [LoopTab]
theorem OR.sh {ρ ρ' : Rho} {g : Nat → Nat} {q : Nat → Bool} (hg : ∀ β l, q β = true → ρ β = Option.some l → ρ' (g β) = Option.some l) {w : World} {b base sz : Nat} {x : AObj} (hq : inO q x = true) (ho : OR ρ w b base sz x) : OR ρ' w b base sz (shO g x) := by
  cases x with
  | cells cs =>
    obtain ⟨h1, h2, h3, h4, h5⟩ := ho
    refine ⟨by rw [shAVs_length]; exact h1, h2, h3, fun i a ha => ?_, h5⟩
    rw [shAVs_get] at ha
    cases hc : cs[i]? with
    | none => rw [hc] at ha; cases ha
    | some a0 =>
      rw [hc] at ha
      injection ha with ha; subst ha
      obtain ⟨v, g1, g2, g3⟩ := h4 i a0 hc
      exact ⟨v, g1, VR.sh hg a0 v (inAVs_get hq hc) g2, g3⟩
  | ro cs =>
    obtain ⟨h2, h4⟩ := ho
    refine ⟨h2, fun i a ha => ?_⟩
    rw [shAVs_get] at ha
    cases hc : cs[i]? with
    | none => rw [hc] at ha; cases ha
    | some a0 =>
      rw [hc] at ha
      injection ha with ha; subst ha
      obtain ⟨v, g1, g2, g3⟩ := h4 i a0 hc
      exact ⟨v, g1, VR.sh hg a0 v (inAVs_get hq hc) g2, g3⟩
  | map es clock => obtain ⟨es', h1, h2⟩ := ho; exact ⟨es', h1, Ents.sh hg hq h2⟩
  | umap es => obtain ⟨es', clock, ms, h1, h2, h3⟩ := ho; exact ⟨es', clock, ms, h1, h2, Ents2.sh hg hq h3⟩
  | iter m since seen stepped => cases hq
  | loop f ps as bd e st pend => cases hq
  | dead => trivial
theorem shAV_id (x : AV) : shAV (fun β => β) x = x := by
  refine AV.rec (motive_1 := fun x => shAV (fun β => β) x = x) (motive_2 := fun l => shAV (fun β => β) (.agg l) = .agg l) ?_ ?_ ?_ ?_ ?_ ?_ ?_ ?_ ?_ ?_ ?_ ?_ ?_ ?_ ?_ ?_ ?_ x
  all_goals try (intros; rfl)
  · intro f p c ip ic
    injection ip with ip; injection ic with ic
    show AV.func f _ _ = _
    rw [ip, ic]
  · intro cs ic; exact ic
  · intro cs ic
    injection ic with ic
    show AV.tup _ = _
    rw [ic]
  · intro a l ia il
    injection il with il
    show AV.agg (_ :: _) = _
    rw [il]
    exact congrArg (fun a => AV.agg (a :: l)) ia
theorem shAVs_id : ∀ (l : List AV), shAVs (fun β => β) l = l
  | [] => rfl
  | a :: l => by simp [shAVs, shAV_id, shAVs_id l]
theorem shO_id (x : AObj) : shO (fun β => β) x = x := by
  cases x <;> simp only [shO, shAVs_id]
  · congr 1
    rename_i es _
    induction es with
    | nil => rfl
    | cons a es ih => obtain ⟨k, v, n⟩ := a; simp [shE, shAV_id, ih]
  · congr 1
    rename_i es
    induction es with
    | nil => rfl
    | cons a es ih => obtain ⟨k, v⟩ := a; simp [shU, shAV_id, ih]

omit [LoopTab] in
theorem Memo.sh_lo {m : Memo} {n β : Nat} (h : β < m.n0) : m.sh n β = β := by
  unfold Memo.sh; rw [brec, nblt, if_pos (by simpa using h)]
omit [LoopTab] in
theorem Memo.sh_hi {m : Memo} {n β : Nat} (h : m.n0 ≤ β) : m.sh n β = β - m.n0 + n := by
  unfold Memo.sh; rw [brec, nblt, if_neg (by simp; omega)]; rfl
omit [LoopTab] in
theorem inAV_mono {q q' : Nat → Bool} (h : ∀ β, q β = true → q' β = true) (x : AV) : inAV q x = true → inAV q' x = true := by
  refine AV.rec (motive_1 := fun x => inAV q x = true → inAV q' x = true) (motive_2 := fun l => inAV q (.agg l) = true → inAV q' (.agg l) = true) ?_ ?_ ?_ ?_ ?_ ?_ ?_ ?_ ?_ ?_ ?_ ?_ ?_ ?_ ?_ ?_ ?_ x
  all_goals try (intros; rfl)
  · intro β o hq; exact h β hq
  · intro β o l c e s hq; exact h β hq
  · intro β hq; exact h β hq
  · intro f p c ip ic hq
    rcases Bool.and_eq_true _ _ ▸ hq with ⟨h1, h2⟩
    exact Bool.and_eq_true _ _ ▸ ⟨ip h1, ic h2⟩
  · intro β hq; exact h β hq
  · intro cs ic hq; exact ic hq
  · intro cs ic hq; exact ic hq
  · intro a l ia il hq
    rcases Bool.and_eq_true _ _ ▸ hq with ⟨h1, h2⟩
    exact Bool.and_eq_true _ _ ▸ ⟨ia h1, il h2⟩
omit [LoopTab] in
theorem inAVs_mono {q q' : Nat → Bool} (h : ∀ β, q β = true → q' β = true) : ∀ l, inAVs q l = true → inAVs q' l = true
  | [], _ => rfl
  | a :: l, hq => by
    simp only [inAVs, Bool.and_eq_true] at hq ⊢
    exact ⟨inAV_mono h a hq.1, inAVs_mono h l hq.2⟩
omit [LoopTab] in
theorem inE_mono {q q' : Nat → Bool} (h : ∀ β, q β = true → q' β = true) : ∀ l, inE q l = true → inE q' l = true
  | [], _ => rfl
  | (k, v, n) :: l, hq => by
    simp only [inE, Bool.and_eq_true] at hq ⊢
    exact ⟨inAV_mono h k hq.1, inAV_mono h v hq.2.1, inE_mono h l hq.2.2⟩
omit [LoopTab] in
theorem inU_mono {q q' : Nat → Bool} (h : ∀ β, q β = true → q' β = true) : ∀ l, inU q l = true → inU q' l = true
  | [], _ => rfl
  | (k, v) :: l, hq => by
    simp only [inU, Bool.and_eq_true] at hq ⊢
    exact ⟨inAV_mono h k hq.1, inAV_mono h v hq.2.1, inU_mono h l hq.2.2⟩
omit [LoopTab] in
theorem inO_mono {q q' : Nat → Bool} (h : ∀ β, q β = true → q' β = true) {x : AObj} (hq : inO q x = true) : inO q' x = true := by
  cases x with
  | cells c => exact inAVs_mono h c hq
  | ro c => exact inAVs_mono h c hq
  | map es n => exact inE_mono h es hq
  | umap es => exact inU_mono h es hq
  | iter m s seen st => cases hq
  | loop f ps as bd e st pend => cases hq
  | dead => rfl
omit [LoopTab] in
theorem shAV_fix {q : Nat → Bool} {g : Nat → Nat} (h : ∀ β, q β = true → g β = β) (x : AV) : inAV q x = true → shAV g x = x := by
  refine AV.rec (motive_1 := fun x => inAV q x = true → shAV g x = x) (motive_2 := fun l => inAV q (.agg l) = true → shAV g (.agg l) = .agg l) ?_ ?_ ?_ ?_ ?_ ?_ ?_ ?_ ?_ ?_ ?_ ?_ ?_ ?_ ?_ ?_ ?_ x
  all_goals try (intros; rfl)
  · intro β o hq; show AV.ptr (g β) o = _; rw [h β hq]
  · intro β o l c e s hq; show AV.slice (g β) o l c e s = _; rw [h β hq]
  · intro β hq; show AV.map (g β) = _; rw [h β hq]
  · intro f p c ip ic hq
    rcases Bool.and_eq_true _ _ ▸ hq with ⟨h1, h2⟩
    have ip := ip h1
    have ic := ic h2
    injection ip with ip; injection ic with ic
    show AV.func f _ _ = _
    rw [ip, ic]
  · intro β hq; show AV.yieldv (g β) = _; rw [h β hq]
  · intro cs ic hq; exact ic hq
  · intro cs ic hq
    have ic := ic hq
    injection ic with ic
    show AV.tup _ = _
    rw [ic]
  · intro a l ia il hq
    rcases Bool.and_eq_true _ _ ▸ hq with ⟨h1, h2⟩
    have il := il h2
    injection il with il
    show AV.agg (_ :: _) = _
    rw [il]
    exact congrArg (fun a => AV.agg (a :: l)) (ia h1)
omit [LoopTab] in
theorem shAVs_fix {q : Nat → Bool} {g : Nat → Nat} (h : ∀ β, q β = true → g β = β) : ∀ l, inAVs q l = true → shAVs g l = l
  | [], _ => rfl
  | a :: l, hq => by
    simp only [inAVs, Bool.and_eq_true] at hq
    simp only [shAVs]
    rw [shAV_fix h a hq.1, shAVs_fix h l hq.2]
omit [LoopTab] in
theorem shE_fix {q : Nat → Bool} {g : Nat → Nat} (h : ∀ β, q β = true → g β = β) : ∀ l, inE q l = true → shE g l = l
  | [], _ => rfl
  | (k, v, n) :: l, hq => by
    simp only [inE, Bool.and_eq_true] at hq
    simp only [shE]
    rw [shAV_fix h k hq.1, shAV_fix h v hq.2.1, shE_fix h l hq.2.2]
omit [LoopTab] in
theorem shU_fix {q : Nat → Bool} {g : Nat → Nat} (h : ∀ β, q β = true → g β = β) : ∀ l, inU q l = true → shU g l = l
  | [], _ => rfl
  | (k, v) :: l, hq => by
    simp only [inU, Bool.and_eq_true] at hq
    simp only [shU]
    rw [shAV_fix h k hq.1, shAV_fix h v hq.2.1, shU_fix h l hq.2.2]
omit [LoopTab] in
theorem shO_pre {m : Memo} {n : Nat} {x : AObj} {q : Nat → Bool} (hlt : ∀ β, q β = true → β < m.n0) (hq : inO q x = true) : x = shO (m.sh n) x := by
  have h : ∀ β, q β = true → m.sh n β = β := fun β hβ => Memo.sh_lo (hlt β hβ)
  cases x with
  | cells c => show AObj.cells c = .cells (shAVs (m.sh n) c); rw [shAVs_fix h c hq]
  | ro c => show AObj.ro c = .ro (shAVs (m.sh n) c); rw [shAVs_fix h c hq]
  | map es k => show AObj.map es k = .map (shE (m.sh n) es) k; rw [shE_fix h es hq]
  | umap es => show AObj.umap es = .umap (shU (m.sh n) es); rw [shU_fix h es hq]
  | iter m s seen st => cases hq
  | loop f ps as bd e st pend => cases hq
  | dead => rfl

/-! the heap with some objects put -/
theorem putAll_next (l : List (Nat × AObj)) : ∀ A : AH, (putAll l A).next = A.next := by
  induction l with
  | nil => exact fun A => rfl
  | cons p l ih => exact fun A => ih (A.put p.1 p.2)
theorem putAll_get (l : List (Nat × AObj)) : ∀ (A : AH) (β : Nat) (x : AObj), (putAll l A).get β = some x → (∃ p ∈ l, p.1 = β ∧ p.2 = x) ∨ ((∀ p ∈ l, p.1 ≠ β) ∧ A.get β = some x) := by
  induction l with
  | nil => exact fun A β x h => .inr ⟨by simp, h⟩
  | cons p l ih =>
    intro A β x h
    rcases ih (A.put p.1 p.2) β x h with ⟨q, h1, h2⟩ | ⟨h1, h2⟩
    · exact .inl ⟨q, List.mem_cons_of_mem _ h1, h2⟩
    · rw [AH.get_put] at h2
      split at h2
      · rename_i e
        injection h2 with h2
        exact .inl ⟨p, List.mem_cons_self, e.symm, h2⟩
      · rename_i e
        refine .inr ⟨fun q hq => ?_, h2⟩
        rcases List.mem_cons.1 hq with rfl | hq
        · exact fun e' => e e'.symm
        · exact h1 q hq
theorem hasK_iff {l : List (Nat × AObj)} {β : Nat} : hasK l β = true ↔ ∃ p ∈ l, p.1 = β := by
  induction l with
  | nil => simp [hasK]
  | cons p l ih =>
    have : hasK (p :: l) β = ((Nat.beq p.1 β).or (hasK l β)) := rfl
    rw [this, Bool.or_eq_true, ih, nbeq, decide_eq_true_eq]
    constructor
    · rintro (h | ⟨q, h1, h2⟩)
      · exact ⟨p, List.mem_cons_self, h⟩
      · exact ⟨q, List.mem_cons_of_mem _ h1, h2⟩
    · rintro ⟨q, h1, h2⟩
      rcases List.mem_cons.1 h1 with rfl | h1
      · exact .inl h2
      · exact .inr ⟨q, h1, h2⟩

/-- The map, as far as the kept objects go. -/
noncomputable def Memo.rho0 (m : Memo) (ρ : Rho) : Rho := fun β => match hasK m.pre β with | true => ρ β | false => none
/-- The map behind the call: the names that it has made stand where the heap has room. -/
def Memo.rho2 (m : Memo) (n : Nat) (ρ ρ1 : Rho) : Rho := fun β => if n ≤ β ∧ β < n + (m.n1 - m.n0) then ρ1 (β - n + m.n0) else ρ β

theorem memo_sound {P : Program} {m : Memo} {r : CR} (hr : CallOK P m.f m.args m.small r) (hok : memoOK r m = true) {args : List AV} {A : AH} {r' : CR} (hu : m.use args A = some r') : CallOK P m.f args A r' := by
  cases r with
  | stuck l => cases hok
  | done v A1 =>
  simp only [memoOK, Bool.and_eq_true, List.all_eq_true, nbeq, nble, nblt, decide_eq_true_eq, Bool.or_eq_true] at hok
  obtain ⟨o1, o2, o3, o4, o5, o6, o7, o8, o9⟩ := hok
  obtain rfl := sameAV_eq _ _ o1
  unfold Memo.use at hu
  split at hu
  · rename_i hc
    injection hu with hu
    subst hu
    rw [Bool.and_eq_true] at hc
    obtain ⟨c1, c2⟩ := hc
    obtain rfl := sameAVs_eq c1
    have c2 : ∀ p ∈ m.pre, A.get p.1 = some p.2 := fun p hp => sameOO_eq (List.all_eq_true.1 c2 p hp)
    have o3 : ∀ p ∈ m.post, A1.get p.1 = some p.2 := fun p hp => sameOO_eq (o3 p hp)
    obtain ⟨n1, hfn, hcall⟩ := hr _ _ rfl
    intro v' A'' he
    injection he with he1 he2
    subst he1; subst he2
    have hnext : (putAll (m.post.map fun p => (m.sh A.next p.1, shO (m.sh A.next) p.2)) ⟨Nat.add A.next (Nat.sub m.n1 m.n0), A.t⟩).next = A.next + (m.n1 - m.n0) := putAll_next _ _
    refine ⟨by rw [hnext]; omega, hfn, fun ρ w argv hR hv hwin => ?_⟩
    rw [hnext] at hwin
    -- what the small heap holds
    have small_get : ∀ β x, m.small.get β = some x → (β, x) ∈ m.pre ∧ A.get β = some x := fun β x h => by
      rcases putAll_get _ _ _ _ h with ⟨p, h1, h2, h3⟩ | ⟨_, h2⟩
      · obtain ⟨q1, q2⟩ := p
        simp only at h2 h3; subst h2; subst h3
        exact ⟨h1, c2 _ h1⟩
      · cases h2
    have small_next : m.small.next = m.n0 := putAll_next _ _
    have hsub : ∀ β, hasK m.pre β = true → (∃ x, A.get β = some x) ∧ β < m.n0 ∧ β < A.next := fun β h => by
      obtain ⟨p, h1, rfl⟩ := hasK_iff.1 h
      exact ⟨⟨_, c2 p h1⟩, (o4 p h1).1, hR.top _ _ (c2 p h1)⟩
    have r0 : ∀ β l, hasK m.pre β = true → ρ β = some l → m.rho0 ρ β = some l := fun β l h1 h2 => by
      unfold Memo.rho0; rw [h1]; exact h2
    have r0' : ∀ β l, m.rho0 ρ β = some l → hasK m.pre β = true ∧ ρ β = some l := fun β l h => by
      unfold Memo.rho0 at h
      cases hk : hasK m.pre β with
      | true => rw [hk] at h; exact ⟨rfl, h⟩
      | false => rw [hk] at h; cases h
    have hR0 : HR m.small (m.rho0 ρ) w := by
      refine ⟨fun β x hx => ?_, fun β β' x x' l l' h1 h2 h3 h4 h5 h6 h7 => ?_, fun β x hx => ?_⟩
      · obtain ⟨g1, g2⟩ := small_get β x hx
        obtain ⟨b, base, sz, k1, k2⟩ := hR.obj β x g2
        refine ⟨b, base, sz, r0 _ _ (hasK_iff.2 ⟨_, g1, rfl⟩) k1, ?_⟩
        have := OR.sh (g := fun β => β) (q := hasK m.pre) (ρ' := m.rho0 ρ) (fun β l h1 h2 => r0 β l h1 h2) (o6 _ g1) k2
        rw [shO_id] at this
        exact this
      · exact hR.inj β β' x x' l l' (small_get _ _ h1).2 (small_get _ _ h2).2 h3 h4 h5 (r0' _ _ h6).2 (r0' _ _ h7).2
      · rw [small_next]; exact (o4 _ (small_get _ _ hx).1).1
    have hv0 : VRs (m.rho0 ρ) m.args argv.toList := by
      have := VRs.sh (g := fun β => β) (q := hasK m.pre) (ρ' := m.rho0 ρ) (fun β l h1 h2 => r0 β l h1 h2) m.args argv.toList o5 hv
      rw [shAVs_id] at this
      exact this
    have hwin0 : Win m.small.next A1.next (m.rho0 ρ) := fun β h1 h2 => by
      rw [small_next] at h1
      unfold Memo.rho0
      cases hk : hasK m.pre β with
      | true => have := (hsub β hk).2.1; omega
      | false => rfl
    refine Calls.mono (hcall (m.rho0 ρ) w argv hR0 hv0 hwin0) ?_
    rintro e w1 ⟨val, ρ1, rfl, q1, q2⟩
    refine ⟨val, m.rho2 A.next ρ ρ1, rfl, ?_, ?_⟩
    -- names of the call under the names of the heap
    all_goals
      have lo : ∀ β, hasK m.pre β = true → ρ1 β = ρ β ∧ m.rho2 A.next ρ ρ1 β = ρ β := fun β hk => by
        obtain ⟨h1, h2, h3⟩ := hsub β hk
        refine ⟨?_, ?_⟩
        · rw [q2.win β (.inl (by rw [small_next]; exact h2))]
          unfold Memo.rho0; rw [hk]
        · unfold Memo.rho2; rw [if_neg (by omega)]
      have hi : ∀ β, m.n0 ≤ β → β < m.n1 → m.rho2 A.next ρ ρ1 (m.sh A.next β) = ρ1 β := fun β h1 h2 => by
        rw [Memo.sh_hi h1]
        unfold Memo.rho2
        rw [if_pos (by omega), show β - m.n0 + A.next - A.next + m.n0 = β by omega]
      have kn : ∀ β, m.known β = true → (hasK m.pre β = true ∧ β < m.n0) ∨ (m.n0 ≤ β ∧ β < m.n1) := fun β h => by
        unfold Memo.known at h
        simp only [Bool.or_eq_true, Bool.and_eq_true, nble, nblt, decide_eq_true_eq] at h
        exact h.imp (fun h => ⟨h.2, h.1⟩) id
      have hg : ∀ β l, m.known β = true → ρ1 β = some l → m.rho2 A.next ρ ρ1 (m.sh A.next β) = some l := fun β l hk h => by
        rcases kn β hk with ⟨k1, k2⟩ | ⟨k1, k2⟩
        · rw [Memo.sh_lo k2, (lo β k1).2, ← (lo β k1).1]; exact h
        · rw [hi β k1 k2]; exact h
    · exact VR.sh hg _ _ o7 q1
    · -- an object of the new heap: of the call's, or one beside it
      have hget : ∀ β x, (putAll (m.post.map fun p => (m.sh A.next p.1, shO (m.sh A.next) p.2)) ⟨Nat.add A.next (Nat.sub m.n1 m.n0), A.t⟩).get β = some x →
          (∃ γ y, A1.get γ = some y ∧ m.known γ = true ∧ inO m.known y = true ∧ β = m.sh A.next γ ∧ x = shO (m.sh A.next) y) ∨ (A.get β = some x ∧ hasK m.pre β = false ∧ β < A.next) := by
        intro β x hx
        rcases putAll_get _ _ _ _ hx with ⟨p, h1, h2, h3⟩ | ⟨h1, h2⟩
        · obtain ⟨p0, hp0, rfl⟩ := List.mem_map.1 h1
          exact .inl ⟨p0.1, p0.2, o3 p0 hp0, (o8 p0 hp0).1, (o8 p0 hp0).2, h2.symm, h3.symm⟩
        · have h2 : A.get β = some x := h2
          cases hk : hasK m.pre β with
          | false => exact .inr ⟨h2, rfl, hR.top _ _ h2⟩
          | true =>
            obtain ⟨p, hp, rfl⟩ := hasK_iff.1 hk
            have hlt := (o4 p hp).1
            have hx' := c2 p hp
            rw [h2] at hx'; injection hx' with hx'; subst hx'
            have hknown : m.known p.1 = true := by
              unfold Memo.known
              simp only [Bool.or_eq_true, Bool.and_eq_true, nblt, nble, decide_eq_true_eq]
              exact .inl ⟨hlt, hk⟩
            have hin : inO m.known p.2 = true := by
              have := o6 p hp
              exact inO_mono (fun β hβ => by
                unfold Memo.known
                simp only [Bool.or_eq_true, Bool.and_eq_true, nblt, nble, decide_eq_true_eq]
                exact .inl ⟨(hsub β hβ).2.1, hβ⟩) this
            rcases (o4 p hp).2 with h | h
            · exfalso
              obtain ⟨p', hp', e⟩ := hasK_iff.1 h
              exact h1 _ (List.mem_map.2 ⟨p', hp', rfl⟩) (by rw [e]; exact Memo.sh_lo hlt)
            · refine .inl ⟨p.1, p.2, sameOO_eq h, hknown, hin, (Memo.sh_lo hlt).symm, ?_⟩
              have := shO_pre (m := m) (n := A.next) (x := p.2) (q := hasK m.pre) (fun β hβ => (hsub β hβ).2.1) (o6 p hp)
              exact this
      have live : ∀ g (y : AObj), (shO g y).live = y.live := fun g y => by cases y <;> rfl
      have seen : ∀ g (y : AObj), (shO g y).seen = y.seen := fun g y => by cases y <;> rfl
      have kin : ∀ g (y : AObj) k, (shO g y).kin k = y.kin k := fun g y k => by cases y <;> cases k <;> rfl
      -- blocks of objects beside the call
      have beside : ∀ β x l, A.get β = some x → hasK m.pre β = false → x.seen = true → ρ β = some l → l.1 < w.heap.size ∧ w1.heap[l.1]? = w.heap[l.1]? ∧ ∀ (k : Bool) γ y l', x.kin (!k) = true → A1.get γ = some y → y.kin k = true → ρ1 γ = some l' → l'.1 ≠ l.1 := by
        intro β x l h1 h2 h3 h4
        obtain ⟨b, base, sz, k1, k2⟩ := hR.obj β x h1
        rw [h4] at k1; injection k1 with k1; subst k1
        have hno : ∀ (k : Bool) β' x' l', x.kin (!k) = true → m.small.get β' = some x' → x'.kin k = true → m.rho0 ρ β' = some l' → l'.1 ≠ b := fun k β' x' l' g0 g1 g2 g3 => by
          have hne : β' ≠ β := fun e => by subst e; rw [(r0' _ _ g3).1] at h2; cases h2
          cases k with
          | true => exact hR.inj β' β x' x l' _ (small_get _ _ g1).2 h1 g2 g0 hne (r0' _ _ g3).2 h4
          | false => exact fun e => hR.inj β β' x x' _ l' h1 (small_get _ _ g1).2 g0 g2 (fun e => hne e.symm) h4 (r0' _ _ g3).2 e.symm
        refine ⟨k2.lt h3, q2.same b (k2.lt h3) (fun β' x' l' g1 g2 g3 => hno true β' x' l' h3 g1 g2 g3), fun k γ y l' g0 g1 g2 g3 e => ?_⟩
        obtain ⟨β₀, x₀, l₀, f1, f2, f3, f4⟩ := q2.img k γ y l' g1 g2 g3 (by rw [e]; exact k2.lt h3)
        exact hno k β₀ x₀ l₀ g0 f1 f2 f3 (f4.trans e)
      have rho_of : ∀ γ, m.known γ = true → ∀ l, m.rho2 A.next ρ ρ1 (m.sh A.next γ) = some l → ρ1 γ = some l := fun γ hk l h => by
        rcases kn γ hk with ⟨k1, k2⟩ | ⟨k1, k2⟩
        · rw [Memo.sh_lo k2, (lo γ k1).2] at h; rw [(lo γ k1).1]; exact h
        · rw [hi γ k1 k2] at h; exact h
      have rho_b : ∀ β, β < A.next → m.rho2 A.next ρ ρ1 β = ρ β := fun β h => by unfold Memo.rho2; rw [if_neg (by omega)]
      refine ⟨fun β x hx => ?_, fun β hβ => ?_, by rw [hnext]; omega, ⟨fun β x hx => ?_, fun β β' x x' l l' h1 h2 h3 h4 h5 h6 h7 => ?_, fun β x hx => ?_⟩, q2.size, fun b hb hno => ?_, fun k β x l h1 h2 h3 h4 => ?_, q2.os, q2.output, q2.tape⟩
      · unfold Memo.rho2
        split
        · rename_i hc; rw [hwin β hc.1 hc.2] at hx; cases hx
        · exact hx
      · unfold Memo.rho2
        rw [hnext] at hβ
        rw [if_neg (by omega)]
      · rcases hget β x hx with ⟨γ, y, g1, g2, g3, rfl, rfl⟩ | ⟨g1, g2, g3⟩
        · obtain ⟨b, base, sz, k1, k2⟩ := q2.hr.obj γ y g1
          exact ⟨b, base, sz, hg _ _ g2 k1, OR.sh hg g3 k2⟩
        · obtain ⟨b, base, sz, k1, k2⟩ := hR.obj β x g1
          refine ⟨b, base, sz, by rw [rho_b β g3]; exact k1, ?_⟩
          by_cases hl : x.seen = true
          · refine k2.congr (fun γ l hγ => ?_) q2.size (beside β x _ g1 g2 hl k1).2.1
            unfold Memo.rho2
            split
            · rename_i hc; rw [hwin γ hc.1 hc.2] at hγ; cases hγ
            · exact hγ
          · cases x <;> first | exact trivial | exact absurd rfl hl
      · rcases hget β x h1 with ⟨γ, y, g1, g2, g3, rfl, rfl⟩ | ⟨g1, g2, g3⟩ <;> rcases hget β' x' h2 with ⟨γ', y', g1', g2', g3', rfl, rfl⟩ | ⟨g1', g2', g3'⟩
        · rw [live] at h3
          rw [seen] at h4
          exact q2.hr.inj γ γ' y y' l l' g1 g1' h3 h4 (fun e => h5 (by rw [e])) (rho_of _ g2 _ h6) (rho_of _ g2' _ h7)
        · rw [live] at h3
          rw [rho_b _ g3'] at h7
          exact (beside β' x' l' g1' g2' h4 h7).2.2 true γ y l h4 g1 h3 (rho_of _ g2 _ h6)
        · rw [seen] at h4
          rw [rho_b _ g3] at h6
          exact fun e => (beside β x l g1 g2 (AObj.live_seen h3) h6).2.2 false γ' y' l' h3 g1' h4 (rho_of _ g2' _ h7) e.symm
        · rw [rho_b _ g3] at h6
          rw [rho_b _ g3'] at h7
          exact hR.inj β β' x x' l l' g1 g1' h3 h4 h5 h6 h7
      · rw [hnext]
        rcases hget β x hx with ⟨γ, y, g1, g2, g3, rfl, rfl⟩ | ⟨g1, g2, g3⟩
        · rcases kn γ g2 with ⟨k1, k2⟩ | ⟨k1, k2⟩
          · rw [Memo.sh_lo k2]; have := (hsub γ k1).2.2; omega
          · rw [Memo.sh_hi k1]; omega
        · omega
      · refine q2.same b hb fun β x l g1 g2 g3 => hno β x l (small_get _ _ g1).2 g2 (r0' _ _ g3).2
      · rcases hget β x h1 with ⟨γ, y, g1, g2, g3, rfl, rfl⟩ | ⟨g1, g2, g3⟩
        · rw [kin] at h2
          obtain ⟨β₀, x₀, l₀, f1, f2, f3, f4⟩ := q2.img k γ y l g1 h2 (rho_of _ g2 _ h3) h4
          exact ⟨β₀, x₀, l₀, (small_get _ _ f1).2, f2, (r0' _ _ f3).2, f4⟩
        · rw [rho_b _ g3] at h3
          exact ⟨β, x, l, g1, h2, h3, rfl⟩
  · cases hu

/-! ### tables -/
omit [LoopTab] in
theorem findL_mem {α : Type} {l : List (Nat × α)} {f : Nat} {x : α} (h : findL l f = some x) : (f, x) ∈ l := by
  induction l with
  | nil => cases h
  | cons p l ih =>
    have h' : Bool.rec (motive := fun _ => Option α) (findL l f) (some p.2) (Nat.beq p.1 f) = some x := h
    rw [brec, nbeq] at h'
    by_cases he : p.1 = f
    · rw [if_pos (by simpa using he)] at h'
      injection h' with h'
      obtain ⟨a, b⟩ := p
      simp only at he h'
      subst he; subst h'
      exact List.mem_cons_self
    · rw [if_neg (by simpa using he)] at h'
      exact List.mem_cons_of_mem _ (ih h')
noncomputable def tabCheck (fn : Func) (fr : FRec) : Bool := (fn.name == "runtime.NumGoroutine").not.and (fn.body.isSome.and (codeOK fn.ntmps fr fr.body))
omit [LoopTab] in
theorem recBase_of {P : Program} {f : FuncId} {fn : Func} {m : Nat} {pl : List (Nat × List (Nat × Nat))} {la : List (Nat × Nat)} {bl : List (Nat × (En → AH → R))} (h1 : P.funcs[f]? = some fn) (h2 : tabCheck fn ((FRec.of f fn m pl la).withB bl) = true) : RecBase P f ((FRec.of f fn m pl la).withB bl) := by
  simp only [tabCheck, Bool.and_eq_true, Bool.not_eq_true'] at h2
  obtain ⟨h2, h3, h4⟩ := h2
  refine ⟨rfl, fn, h1, h2, ?_, rfl, h4⟩
  show fn.body = some (fn.body.getD .skip)
  cases hb : fn.body with
  | none => rw [hb] at h3; cases h3
  | some c => rfl
/-- All of a list are as the kernel has looked at them; blocks of their own has one alone. -/
inductive TabList (P : Program) (q : Nat × FRec) : List (Nat × FRec) → Prop
  | nil : TabList P q []
  | cons {f : Nat} {fr : FRec} {l : List (Nat × FRec)} (h : RecBase P f fr) (hb : fr.blks = [] ∨ (f, fr) = q) (t : TabList P q l) : TabList P q ((f, fr) :: l)
omit [LoopTab] in
theorem TabList.append {P : Program} {q : Nat × FRec} {l l' : List (Nat × FRec)} (h : TabList P q l) (h' : TabList P q l') : TabList P q (l ++ l') := by
  induction h with
  | nil => exact h'
  | cons h hb _ ih => exact .cons h hb ih
omit [LoopTab] in
theorem TabList.get {P : Program} {q : Nat × FRec} {l : List (Nat × FRec)} (h : TabList P q l) : ∀ p ∈ l, RecBase P p.1 p.2 ∧ (p.2.blks = [] ∨ p = q) := by
  induction h with
  | nil => simp
  | cons h hb _ ih =>
    intro p hp
    rcases List.mem_cons.1 hp with rfl | hp
    · exact ⟨h, hb⟩
    · exact ih p hp
omit [LoopTab] in
theorem tableOK_list {P : Program} {l : List (Nat × FRec)} {q : Nat × FRec} (h : TabList P q l) (hq : ∀ fn, P.funcs[q.1]? = some fn → ∀ id g body, findL q.2.blks id = some g → Holds id body q.2.body → ∀ e A, ∀ Fe N, Free Fe → @RunOK (loopTab P (findL l)) q.2 fn.ntmps ((Code.block id body).wpIn Fe N P) e A (g e A)) :
    @TableOK (loopTab P (findL l)) P (findL l) := by
  refine tableOK_of (fun f fr hf => (h.get _ (findL_mem hf)).1) fun f fr fn hf hfn id g body hg hh e A Fe N hFe => ?_
  rcases (h.get _ (findL_mem hf)).2 with hb | hb
  · simp only at hb
    rw [hb] at hg; cases hg
  · subst hb
    exact hq fn hfn id g body hg hh e A Fe N hFe

/-- What a kept call says is so. -/
def MemoTrue (P : Program) (m : Memo) : Prop := ∃ r, CallOK P m.f m.args m.small r ∧ memoOK r m = true
theorem memo_true {P : Program} (hm : P.follows .mixedOrders = true) {F : FuncId → Option FRec} {O : Oracle} (hF : TableOK P F) (hO : OracleOK P O) {n : Nat} {m : Memo} (h : memoOK ((selfN P F O n).call m.f m.args m.small) m = true) : MemoTrue P m := by
  cases hq : (selfN P F O n).call m.f m.args m.small with
  | stuck l => rw [hq] at h; cases h
  | done v A => exact ⟨_, eval_sound hm hF hO hq, by rw [← hq]; exact h⟩
noncomputable def orNone (O : Option CR) (r : Option CR) : Option CR := Option.rec (motive := fun _ => Option CR) r (fun x => some x) O
/-- An oracle with some kept calls of one function more. -/
noncomputable def addO (f0 : Nat) (l : List Memo) (O : Oracle) : Oracle := fun f args A => Bool.rec (motive := fun _ => Option CR) (O f args A) (orNone (useFirst l args A) (O f args A)) (Nat.beq f f0)
noncomputable def noO : Oracle := fun _ _ _ => none
theorem noO_ok {P : Program} : OracleOK P noO := fun f args A r h => by cases h
omit [LoopTab] in
theorem useFirst_some {args : List AV} {A : AH} {r : CR} : ∀ {l : List Memo}, useFirst l args A = some r → ∃ m ∈ l, m.use args A = some r
  | [], h => by cases h
  | m :: l, h => by
    have h : Option.rec (motive := fun _ => Option CR) (useFirst l args A) (fun r => some r) (m.use args A) = some r := h
    cases hq : m.use args A with
    | none =>
      rw [hq] at h
      obtain ⟨m', h1, h2⟩ := useFirst_some (l := l) h
      exact ⟨m', List.mem_cons_of_mem _ h1, h2⟩
    | some r' =>
      rw [hq] at h
      exact ⟨m, List.mem_cons_self, by rw [hq]; exact h⟩
inductive MemosOK (P : Program) (f0 : Nat) : List Memo → Prop
  | nil : MemosOK P f0 []
  | cons {m : Memo} {l : List Memo} (hf : m.f = f0) (h : MemoTrue P m) (t : MemosOK P f0 l) : MemosOK P f0 (m :: l)
theorem MemosOK.get {P : Program} {f0 : Nat} {l : List Memo} (h : MemosOK P f0 l) : ∀ m ∈ l, m.f = f0 ∧ MemoTrue P m := by
  induction h with
  | nil => simp
  | cons hf h _ ih =>
    intro m hm
    rcases List.mem_cons.1 hm with rfl | hm
    · exact ⟨hf, h⟩
    · exact ih m hm
theorem addO_ok {P : Program} {f0 : Nat} {l : List Memo} {O : Oracle} (hl : MemosOK P f0 l) (hO : OracleOK P O) : OracleOK P (addO f0 l O) := by
  intro f args A r h
  have h : Bool.rec (motive := fun _ => Option CR) (O f args A) (orNone (useFirst l args A) (O f args A)) (Nat.beq f f0) = some r := h
  rw [brec, nbeq] at h
  split at h
  · rename_i hf
    have hf : f = f0 := by simpa using hf
    cases hu : useFirst l args A with
    | none => rw [hu] at h; exact hO f args A r h
    | some r' =>
      rw [hu] at h
      have h : some r' = some r := h
      injection h with h; subst h
      obtain ⟨m, h1, h2⟩ := useFirst_some hu
      obtain ⟨h3, r0, h4, h5⟩ := hl.get m h1
      have := memo_sound h4 h5 h2
      rw [h3] at this
      rw [hf]; exact this
  · exact hO f args A r h
end Go.Ab

/-! What running some code comes to, said of slots and heaps alone: rules by which a proof walks through the code of a function, whatever its arguments are. -/
namespace Go.Ab
open Go
variable {P : Program} [LoopTab]

/-- Running c from the slots e and the heap A ends in the way x, with the slots e' and the heap A'. -/
def TriW (n : Nat) (nr : Bool) (wp : (F : Fence) → (N : Nat) → (Exit → Act → World → Prop) → Act → World → Prop) (e : En) (A : AH) (x : Ex) (e' : En) (A' : AH) : Prop :=
  A.next ≤ A'.next ∧ ∀ F N, Free F → (F.round = none ∨ nr = true) → ∀ {B : Nat} (ρ : Rho) (w : World) (a : Act), HR A ρ w → ER ρ e a → Win A.next A'.next ρ → n ≤ a.tmps.size → Marks B A ρ w a.defers →
    ∀ (Q : Exit → Act → World → Prop), (∀ ρ' a' w', ER ρ' e' a' → Step A ρ w A' ρ' w' → n ≤ a'.tmps.size → Marks B A' ρ' w' a'.defers → Q (exitOf x) a' w') → wp F N Q a w
/-- Running c from e and A ends so that Q holds. -/
def W (P : Program) (n : Nat) (nr : Bool) (c : Code) (e : En) (A : AH) (Q : Ex → En → AH → Prop) : Prop :=
  ∃ x e' A', TriW n nr (fun F N => c.wpIn F N P) e A x e' A' ∧ Q x e' A'
/-- The same of a loop that is under way. -/
def LW (P : Program) (n : Nat) (nr : Bool) (c : Code) (e : En) (A : AH) (Q : Ex → En → AH → Prop) : Prop :=
  ∃ x e' A', TriW n nr (fun F N => LWp F N P c) e A x e' A' ∧ Q x e' A'

variable {n : Nat} {nr : Bool} {e : En} {A : AH} {Q : Ex → En → AH → Prop}

theorem W.mono {c : Code} {Q' : Ex → En → AH → Prop} (h : W P n nr c e A Q) (hq : ∀ x e A, Q x e A → Q' x e A) : W P n nr c e A Q' := by
  obtain ⟨x, e', A', h1, h2⟩ := h
  exact ⟨x, e', A', h1, hq _ _ _ h2⟩
theorem LW.mono {c : Code} {Q' : Ex → En → AH → Prop} (h : LW P n nr c e A Q) (hq : ∀ x e A, Q x e A → Q' x e A) : LW P n nr c e A Q' := by
  obtain ⟨x, e', A', h1, h2⟩ := h
  exact ⟨x, e', A', h1, hq _ _ _ h2⟩

theorem TriW.id {wp : (F : Fence) → (N : Nat) → (Exit → Act → World → Prop) → Act → World → Prop} {x : Ex} (h : ∀ F N (Q : Exit → Act → World → Prop) a w, Q (exitOf x) a w → wp F N Q a w) : TriW n nr wp e A x e A :=
  ⟨Nat.le_refl _, fun F N _ _ _ ρ w a hr he _ hn hd Q hQ => h F N Q a w (hQ ρ a w he (Step.refl hr) hn hd)⟩

theorem W.skip (h : Q .normal e A) : W P n nr .skip e A Q := ⟨.normal, _, _, TriW.id fun _ _ _ _ _ h => wpIn_skip h, h⟩
theorem W.label {j : Nat} (h : Q .normal e A) : W P n nr (.label j) e A Q := ⟨.normal, _, _, TriW.id fun _ _ _ _ _ h => wpIn_label h, h⟩
theorem W.exit {j : Nat} (h : Q (.exit j) e A) : W P n nr (.exit j) e A Q := ⟨.exit j, _, _, TriW.id fun _ _ _ _ _ h => wpIn_exit h, h⟩
theorem W.ret (h : Q .ret e A) : W P n nr .ret e A Q := ⟨.ret, _, _, TriW.id fun _ _ _ _ _ h => wpIn_ret h, h⟩

/-- On behind a first part: if that ends normally. -/
def andThen (Q₂ : En → AH → Prop) (Q : Ex → En → AH → Prop) : Ex → En → AH → Prop
  | .normal, e, A => Q₂ e A
  | .exit j, e, A => Q (.exit j) e A
  | .ret, e, A => Q .ret e A

theorem TriW.seq {wp wp' wp'' : (F : Fence) → (N : Nat) → (Exit → Act → World → Prop) → Act → World → Prop} {x : Ex} {e₁ e₂ : En} {A₁ A₂ : AH} (h : TriW n nr wp e A .normal e₁ A₁) (h' : TriW n nr wp' e₁ A₁ x e₂ A₂)
    (hw : ∀ F N Q a w, wp F N (Exit.then (fun a w => wp' F N Q a w) Q) a w → wp'' F N Q a w) : TriW n nr wp'' e A x e₂ A₂ := by
  obtain ⟨m1, r1⟩ := h
  obtain ⟨m2, r2⟩ := h'
  refine ⟨Nat.le_trans m1 m2, fun F N hF hro B ρ w a hr he hwin hn hd Q hQ => hw F N Q a w ?_⟩
  refine r1 F N hF hro ρ w a hr he (hwin.left m2) hn hd _ fun ρ1 a1 w1 q1 q2 q3 q4 => ?_
  exact r2 F N hF hro ρ1 w1 a1 q2.hr q1 (q2.winNext hwin) q3 q4 Q fun ρ2 a2 w2 p1 p2 p3 p4 => hQ ρ2 a2 w2 p1 (q2.trans p2) p3 p4
theorem TriW.out {wp wp'' : (F : Fence) → (N : Nat) → (Exit → Act → World → Prop) → Act → World → Prop} {x x' : Ex} {e₁ : En} {A₁ : AH} (h : TriW n nr wp e A x e₁ A₁)
    (hw : ∀ F N (Q : Exit → Act → World → Prop) a w, wp F N (fun y a w => y = exitOf x → Q (exitOf x') a w) a w → wp'' F N Q a w) : TriW n nr wp'' e A x' e₁ A₁ := by
  obtain ⟨m1, r1⟩ := h
  exact ⟨m1, fun F N hF hro B ρ w a hr he hwin hn hd Q hQ => hw F N Q a w (r1 F N hF hro ρ w a hr he hwin hn hd _ fun ρ1 a1 w1 q1 q2 q3 q4 _ => hQ ρ1 a1 w1 q1 q2 q3 q4)⟩
/-- The same run under another walk. -/
theorem TriW.under {wp wp'' : (F : Fence) → (N : Nat) → (Exit → Act → World → Prop) → Act → World → Prop} {x x' : Ex} {e₁ : En} {A₁ : AH} (h : TriW n nr wp e A x e₁ A₁) (T : Fence → Nat → (Exit → Act → World → Prop) → Exit → Act → World → Prop)
    (hw : ∀ F N (Q : Exit → Act → World → Prop) a w, wp F N (T F N Q) a w → wp'' F N Q a w) (hT : ∀ F N (Q : Exit → Act → World → Prop) a w, Q (exitOf x') a w → T F N Q (exitOf x) a w) : TriW n nr wp'' e A x' e₁ A₁ := by
  obtain ⟨m1, r1⟩ := h
  exact ⟨m1, fun F N hF hro B ρ w a hr he hwin hn hd Q hQ => hw F N Q a w (r1 F N hF hro ρ w a hr he hwin hn hd _ fun ρ1 a1 w1 q1 q2 q3 q4 => hT F N Q a1 w1 (hQ ρ1 a1 w1 q1 q2 q3 q4))⟩

theorem W.seq {a b : Code} (h : W P n nr a e A (andThen (fun e A => W P n nr b e A Q) Q)) : W P n nr (.seq a b) e A Q := by
  obtain ⟨x, e₁, A₁, h1, h2⟩ := h
  cases x with
  | normal =>
    obtain ⟨x', e₂, A₂, h3, h4⟩ := h2
    exact ⟨x', e₂, A₂, TriW.seq h1 h3 fun _ _ _ _ _ h => wpIn_seq h, h4⟩
  | exit j => exact ⟨.exit j, e₁, A₁, h1.under (fun F N Q => Exit.then (b.wpIn F N P Q) Q) (fun _ _ _ _ _ h => wpIn_seq h) (fun _ _ _ _ _ h => h), h2⟩
  | ret => exact ⟨.ret, e₁, A₁, h1.under (fun F N Q => Exit.then (b.wpIn F N P Q) Q) (fun _ _ _ _ _ h => wpIn_seq h) (fun _ _ _ _ _ h => h), h2⟩

theorem W.cond {c : Operand} {a b : Code} (t : Bool) (hc : opnd c e = .bool t) (h : W P n nr (if t then a else b) e A Q) : W P n nr (.cond c a b) e A Q := by
  obtain ⟨x, e₁, A₁, ⟨m1, r1⟩, h2⟩ := h
  refine ⟨x, e₁, A₁, ⟨m1, fun F N hF hro B ρ w ac hr he hwin hn hd Q hQ => ?_⟩, h2⟩
  have hv : ac.eval c = .bool t := by
    have := opnd_sound (ρ := ρ) (e := e) (a := ac) (x := c) fun t _ => he t
    rw [hc] at this; exact this
  exact wpIn_cond hv (r1 F N hF hro ρ w ac hr he hwin hn hd Q hQ)

/-- Behind a block: an exit of its own ends it. -/
def endBlock (id : Nat) (Q : Ex → En → AH → Prop) : Ex → En → AH → Prop
  | .normal, e, A => Q .normal e A
  | .exit j, e, A => if j = id then Q .normal e A else Q (.exit j) e A
  | .ret, e, A => Q .ret e A
theorem W.block {id : Nat} {a : Code} (h : W P n nr a e A (endBlock id Q)) : W P n nr (.block id a) e A Q := by
  obtain ⟨x, e₁, A₁, h1, h2⟩ := h
  cases x with
  | normal => exact ⟨.normal, e₁, A₁, h1.under (fun _ _ Q => Exit.inBlock id Q) (fun _ _ _ _ _ h => wpIn_block h) (fun _ _ _ _ _ h => h), h2⟩
  | ret => exact ⟨.ret, e₁, A₁, h1.under (fun _ _ Q => Exit.inBlock id Q) (fun _ _ _ _ _ h => wpIn_block h) (fun _ _ _ _ _ h => h), h2⟩
  | exit j =>
    simp only [endBlock] at h2
    by_cases hj : j = id
    · rw [if_pos hj] at h2
      refine ⟨.normal, e₁, A₁, h1.under (fun _ _ Q => Exit.inBlock id Q) (fun _ _ _ _ _ h => wpIn_block h) (fun _ _ Q a w h => ?_), h2⟩
      show Exit.inBlock id Q (.exit j) a w
      simp only [Exit.inBlock, hj, if_true]; exact h
    · rw [if_neg hj] at h2
      refine ⟨.exit j, e₁, A₁, h1.under (fun _ _ Q => Exit.inBlock id Q) (fun _ _ _ _ _ h => wpIn_block h) (fun _ _ Q a w h => ?_), h2⟩
      show Exit.inBlock id Q (.exit j) a w
      simp only [Exit.inBlock, hj, if_false]; exact h

theorem LW.step {c : Code} (h : W P n nr c e A (andThen (fun e A => LW P n nr c e A Q) Q)) : LW P n nr c e A Q := by
  obtain ⟨x, e₁, A₁, h1, h2⟩ := h
  cases x with
  | normal =>
    obtain ⟨x', e₂, A₂, h3, h4⟩ := h2
    exact ⟨x', e₂, A₂, TriW.seq h1 h3 fun _ _ _ _ _ h => LWp.step h, h4⟩
  | exit j => exact ⟨.exit j, e₁, A₁, h1.under (fun F N Q => Exit.then (fun a w => LWp F N P c Q a w) Q) (fun _ _ _ _ _ h => LWp.step h) (fun _ _ _ _ _ h => h), h2⟩
  | ret => exact ⟨.ret, e₁, A₁, h1.under (fun F N Q => Exit.then (fun a w => LWp F N P c Q a w) Q) (fun _ _ _ _ _ h => LWp.step h) (fun _ _ _ _ _ h => h), h2⟩
theorem W.loop {c : Code} (h : LW P n nr c e A Q) : W P n nr (.loop c) e A Q := by
  obtain ⟨x, e₁, A₁, h1, h2⟩ := h
  exact ⟨x, e₁, A₁, h1.under (fun _ _ Q => Q) (fun _ _ _ _ _ h => h.loop) (fun _ _ _ _ _ h => h), h2⟩
/-- A loop by a measure. -/
theorem LW.induct {c : Code} (I : Nat → En → AH → Prop) (hs : ∀ k e A, I k e A → W P n nr c e A (andThen (fun e A => ∃ k', k' < k ∧ I k' e A) Q)) : ∀ k e A, I k e A → LW P n nr c e A Q := by
  intro k
  induction k using Nat.strongRecOn with
  | _ k ih =>
    intro e A hi
    refine LW.step ((hs k e A hi).mono fun x e1 A1 h => ?_)
    cases x with
    | normal => obtain ⟨k', h1, h2⟩ := h; exact ih k' h1 e1 A1 h2
    | exit j => exact h
    | ret => exact h

/-! ### operations -/
/-- Some operations, one behind the other. -/
def OpsT (P : Program) (ops : Array Oper) (l : List Oper) (e : En) (A : AH) (e' : En) (A' : AH) : Prop :=
  A.next ≤ A'.next ∧ ∀ {F : Fence} {N : Nat}, Free F → ∀ j, (∀ k, k < l.length → ops[j + k]? = l[k]?) → ∀ {ρ : Rho} {w : World} {a : Act}, HR A ρ w → ER ρ e a → Win A.next A'.next ρ → (∀ (i : Nat) (o : Oper), ops[i]? = some o → ∀ t, o.dst = some t → t < a.tmps.size) → ∀ {Q : Exit → Act → World → Prop},
      (∀ ρ' a' w', ER ρ' e' a' → Step A ρ w A' ρ' w' → a'.defers = a.defers → a'.tmps.size = a.tmps.size → Q .normal a' w') → wpOpsIn F N P ops Q (List.range' j l.length) a w
def OpsW (P : Program) (ops : Array Oper) (l : List Oper) (e : En) (A : AH) (K : En → AH → Prop) : Prop := ∃ e' A', OpsT P ops l e A e' A' ∧ K e' A'

variable {ops : Array Oper} {l : List Oper} {K : En → AH → Prop}

theorem OpsW.nil (h : K e A) : OpsW P ops [] e A K :=
  ⟨e, A, ⟨Nat.le_refl _, fun _ _ _ _ _ _ hr he _ _ _ hQ => hQ _ _ _ he (Step.refl hr) rfl rfl⟩, h⟩

/-- one operation by a self that is right -/
theorem OpsW.self {s : Self} (hs : CallsOK P s) {o : Oper} {r : AV} {A₁ : AH} (hw : wantedA ops o.guard e = some true) (ho : opA o.op P s e A = .done r A₁) (h : OpsW P ops l (bindE o.dst e r) A₁ K) : OpsW P ops (o :: l) e A K := by
  obtain ⟨e', A', ⟨m1, ih⟩, hK⟩ := h
  have hstep : A.next ≤ A₁.next := opA_next hs ho
  refine ⟨e', A', ⟨Nat.le_trans hstep m1, fun {F N} hF j hj {ρ w a} hr he hwin hd Q hQ => ?_⟩, hK⟩
  have hget : ops[j]? = some o := by have := hj 0 (by simp); simpa using this
  rw [show (o :: l).length = l.length + 1 from rfl, List.range'_succ, wpOpsIn_cons]
  unfold wpOpIn
  rw [hget]
  simp only
  rw [wanted_sound hw he]
  simp only [if_true]
  refine oper_step hF hs hr (fun x _ => opnd_sound fun t _ => he t) ho (hwin.left m1) fun ρ1 w1 val q1 q2 => ?_
  refine ih hF (j + 1) (fun k hk => by
    have := hj (k + 1) (by simp; omega)
    rw [show j + 1 + k = j + (k + 1) by omega, this]; simp) q2.hr (he.put q2.le q1 (hd j o hget)) (q2.winNext hwin) (fun i o' hi t ht => by rw [size_put]; exact hd i o' hi t ht) fun ρ' a' w' r1 r2 r3 r4 => ?_
  exact hQ ρ' a' w' r1 (q2.trans r2) (r3.trans (defers_put _ _ _)) (r4.trans (size_put _ _ _))
/-- an operation that is not carried out -/
theorem OpsW.un {o : Oper} (hw : wantedA ops o.guard e = some false) (h : OpsW P ops l (bindE o.dst e (.tup [])) A K) : OpsW P ops (o :: l) e A K := by
  obtain ⟨e', A', ⟨m1, ih⟩, hK⟩ := h
  refine ⟨e', A', ⟨m1, fun {F N} hF j hj {ρ w a} hr he hwin hd Q hQ => ?_⟩, hK⟩
  have hget : ops[j]? = some o := by have := hj 0 (by simp); simpa using this
  rw [show (o :: l).length = l.length + 1 from rfl, List.range'_succ, wpOpsIn_cons]
  unfold wpOpIn
  rw [hget]
  simp only
  rw [wanted_sound hw he]
  simp only [Bool.false_eq_true, if_false]
  refine ⟨fun f _ => hF.fn f, ?_⟩
  refine ih hF (j + 1) (fun k hk => by
    have := hj (k + 1) (by simp; omega)
    rw [show j + 1 + k = j + (k + 1) by omega, this]; simp) hr (he.put (fun _ _ h => h) (r := .tup []) (val := undef) ⟨#[], rfl, trivial⟩ (hd j o hget)) hwin (fun i o' hi t ht => by rw [size_put]; exact hd i o' hi t ht) fun ρ' a' w' q1 q2 q3 q4 => ?_
  exact hQ ρ' a' w' q1 q2 (q3.trans (defers_put _ _ _)) (q4.trans (size_put _ _ _))

/-! selves that know some calls -/
noncomputable def self0 : Self := ⟨fun _ _ _ => .stuck [], fun _ _ _ => .stuck [], fun _ _ _ _ => .stuck []⟩
theorem self0_ok : CallsOK P self0 := ⟨fun _ _ _ _ _ h => (by cases h), fun _ _ _ _ _ h => (by cases h)⟩
/-- one call more -/
noncomputable def selfC (g : FuncId) (as : List AV) (B : AH) (r : CR) (s : Self) : Self := ⟨fun f x C => @ite _ (f = g ∧ x = as ∧ C = B) (Classical.propDecidable _) r (s.call f x C), s.yield, s.loop⟩
theorem selfC_ok {g : FuncId} {as : List AV} {B : AH} {r : CR} {s : Self} (h : CallOK P g as B r) (hs : CallsOK P s) : CallsOK P (selfC g as B r s) := by
  refine ⟨fun f x C => ?_, fun β x C => hs.yield β x C⟩
  show CallOK P f x C (@ite _ (f = g ∧ x = as ∧ C = B) (Classical.propDecidable _) r (s.call f x C))
  by_cases hc : f = g ∧ x = as ∧ C = B
  · rw [if_pos hc]
    obtain ⟨rfl, rfl, rfl⟩ := hc
    exact h
  · rw [if_neg hc]
    exact hs.call f x C
theorem selfC_call {g : FuncId} {as : List AV} {B : AH} {r : CR} {s : Self} : (selfC g as B r s).call g as B = r := @if_pos _ (Classical.propDecidable _) ⟨rfl, rfl, rfl⟩ _ _ _

theorem OpsW.op {o : Oper} {r : AV} {A₁ : AH} (hw : wantedA ops o.guard e = some true) (ho : opA o.op P self0 e A = .done r A₁) (h : OpsW P ops l (bindE o.dst e r) A₁ K) : OpsW P ops (o :: l) e A K := h.self self0_ok hw ho

/-- Calling f answers so that R holds. -/
def FnW (P : Program) (f : FuncId) (as : List AV) (A : AH) (R : AV → AH → Prop) : Prop := ∃ v A', CallOK P f as A (.done v A') ∧ R v A'
theorem FnW.mono {f : FuncId} {as : List AV} {R R' : AV → AH → Prop} (h : FnW P f as A R) (hr : ∀ v A', R v A' → R' v A') : FnW P f as A R' := by
  obtain ⟨v, A', h1, h2⟩ := h; exact ⟨v, A', h1, hr _ _ h2⟩

theorem OpsW.call {o : Oper} {f : Operand} {args : Array Operand} {tys : Array TypeId} {g : FuncId} {pre cap : List AV} (hw : wantedA ops o.guard e = some true) (ho : o.op = .call ⟨.value f, args, tys⟩) (hf : opnd f e = .func g pre cap)
    (h : FnW P g (pre ++ (args.toList.map fun y => opnd y e) ++ cap) A fun v A₁ => OpsW P ops l (bindE o.dst e v) A₁ K) : OpsW P ops (o :: l) e A K := by
  obtain ⟨v, A₁, h1, h2⟩ := h
  refine h2.self (selfC_ok h1 self0_ok) hw ?_
  rw [ho]
  simp only [opA, hf, selfC_call, VH.ofC]

/-- a region in the order of the text -/
theorem W.region {id : Nat} (hd : dstsOK n ops.toList = true) (h : OpsW P ops ops.toList e A fun e A => Q .normal e A) : W P n nr (.region id ops false) e A Q := by
  obtain ⟨e', A', ⟨m1, hrun⟩, hK⟩ := h
  refine ⟨.normal, e', A', ⟨m1, fun F N hF hro B ρ w a hr he hwin hn hdf Q hQ => wpIn_region ?_⟩, hK⟩
  rw [List.range_eq_range']
  have hd := dstsOK_some hd
  have := hrun (N := N) hF 0 (fun k _ => by simp) hr he hwin (fun i o hi t ht => Nat.lt_of_lt_of_le (hd i o hi t ht) hn) (Q := Q) fun ρ' a' w' q1 q2 q3 q4 =>
    hQ ρ' a' w' q1 q2 (by rw [q4]; exact hn) (by rw [q3]; exact hdf.step q2)
  simpa using this
/-- a region whose order is drawn, along a plan -/
theorem W.drawn (hm : P.follows .mixedOrders = true) {id : Nat} {s : Self} (hs : CallsOK P s) {lt : Option Nat} (pl : List (Nat × Nat)) (hd : dstsOK n ops.toList = true) (hok : planOK ops lt pl = true) {e' : En} {A' : AH} {hs' : List AH} {lr : LR}
    (hrun : runP P ops lt (pl.map fun p => (p.2, ops[p.1]?)) s e A [A] .none = .done e' A' hs' lr) (h : Q .normal e' (finLate A' lr)) : W P n nr (.region id ops true) e A Q := by
  have hr0 := fun F N (hF : Free F) => region_drawn (N := N) hF hs hm (pl := some pl) hok hrun _ rfl
  refine ⟨.normal, e', finLate A' lr, ⟨(hr0 Fence.wide 0 Free.wide).1, fun F N hF hro B ρ w a hr he hwin hn hdf Q hQ => ?_⟩, h⟩
  have hd := dstsOK_some hd
  exact (hr0 F N hF).2 hr he hwin (fun i o hi t ht => Nat.lt_of_lt_of_le (hd i o hi t ht) hn) fun ρ' a' w' q1 q2 q3 q4 =>
    hQ ρ' a' w' q1 q2 (by rw [q4]; exact hn) (by rw [q3]; exact hdf.step q2)

/-- A function, by its body. -/
theorem FnW.of {f : FuncId} {fn : Func} {c : Code} {as : List AV} {R : AV → AH → Prop} (h1 : P.funcs[f]? = some fn) (h2 : (fn.name == "runtime.NumGoroutine") = false) (h3 : fn.body = some c)
    (h : W P fn.ntmps false c (bindArgs (2 ^ fn.ntmps - 1) 0 as) A fun x e A' => (x = .normal ∨ x = .ret) ∧ ∃ vs, resultsA P e A' fn.results.toList = some vs ∧ R (match vs with | [v] => v | vs => .tup vs) A') : FnW P f as A R := by
  obtain ⟨x, e1, A1, ⟨m1, r1⟩, hxx, vs, hres, hR⟩ := h
  refine ⟨_, A1, ?_, hR⟩
  intro v A' he
  injection he with he1 he2
  subst he2
  refine ⟨m1, ⟨fn, c, h1, h2, h3⟩, fun ρ w argv hr ha hwin => ?_⟩
  refine callsIn_wide.1 (callsIn_of_wp_marks (F := Fence.wide) (n := 0) h1 h3 trivial ?_)
  refine r1 Fence.wide 0 Free.wide (.inl rfl) (B := w.heap.size) ρ w _ hr (bindArgs_ER ha _ _) hwin (by simp; omega) (Marks.nil (Nat.le_refl _)) _ fun ρ' a' w' q1 q2 q3 q4 => ?_
  have hv : (∃ u, vs = [u] ∧ v = u) ∨ ((∀ u, vs ≠ [u]) ∧ v = .tup vs) := by
    subst he1
    cases vs with
    | nil => exact .inr ⟨by simp, rfl⟩
    | cons y l =>
      cases l with
      | nil => exact .inl ⟨y, rfl, rfl⟩
      | cons z l => exact .inr ⟨by simp, rfl⟩
  have hend : ∀ w'', Step A ρ w A1 ρ' w'' → ∃ val, (results fn a'.tmps).run P w'' = .ok val w'' ∧ ∃ u ρ'', Ending.returned val = .returned u ∧ VR ρ'' v u ∧ Step A ρ w A1 ρ'' w'' := by
    intro w'' q2
    obtain ⟨us, g1, g2⟩ := resultsA_sound (P := P) q2.hr q1 fn.results.toList vs hres
    refine ⟨if h : us.toArray.size = 1 then us.toArray[0] else .tuple us.toArray, ?_, _, ρ', rfl, ?_, q2⟩
    · unfold results
      rw [Array.mapM_eq_mapM_toList]
      simp only [Sem.run_bind, Sem.run_map, Sem.run_pure]
      exact congrArg (fun r : Result (List Value) => (r.andThen fun a w' => Result.ok a.toArray w').andThen fun a w' => Result.ok (if h : a.size = 1 then a[0] else Value.tuple a) w') g1
    · have hlen := VRs.length g2
      rcases hv with ⟨u, rfl, rfl⟩ | ⟨hne, rfl⟩
      · cases us with
        | nil => simp at hlen
        | cons y us =>
          cases us with
          | nil => simpa using g2.1
          | cons z us => simp at hlen
      · have hne1 : ¬ (us.toArray.size = 1) := fun e => by
          cases vs with
          | nil => simp at hlen e; omega
          | cons y vs =>
            cases vs with
            | nil => exact hne y rfl
            | cons z vs => simp at hlen e; omega
        rw [dif_neg hne1]
        exact ⟨_, rfl, g2⟩
  have hleave := leaves_marks (fn := fn) (tmps := a'.tmps) (R := fun e w' => ∃ val ρ', e = .returned val ∧ VR ρ' v val ∧ Step A ρ w A1 ρ' w') (fun w'' hs => by
    obtain ⟨val, h1, h2⟩ := hend w'' hs
    exact ⟨val, h1, h2⟩) q4.2.choose w' a'.defers q2 q4.2.choose_spec
  rcases hxx with rfl | rfl
  · exact hleave
  · exact hleave
end Go.Ab

/-! The operations, said so that 'simp' carries them out. -/
namespace Go.Ab
open Go
section
variable {P : Program} {s : Self} {e : En} {A : AH}

@[simp] theorem opnd_tmp (t : Nat) : opnd (.tmp t) e = e.get t := rfl
@[simp] theorem opnd_const (v : Value) : opnd (.const v) e = ofValue v := rfl
@[simp] theorem opnd_func (f : FuncId) : opnd (.func f) e = .func f [] [] := rfl
@[simp] theorem ofValue_int (k : IntKind) (n : Int) : ofValue (.int k n) = .int k n := rfl
@[simp] theorem ofValue_bool (b : Bool) : ofValue (.bool b) = .bool b := rfl
@[simp] theorem ofValue_nilslice : ofValue (.slice none 0 0) = .nilslice := rfl
@[simp] theorem ofValue_nilptr : ofValue (.pointer none) = .nilptr := rfl
@[simp] theorem ofValue_nilmap : ofValue (.map none) = .nilmap := rfl
@[simp] theorem ofValue_nilfunc : ofValue .nilFunc = .nilfunc := rfl
theorem ofValue_str (b : ByteArray) : ofValue (.string b) = .str (b.data.toList.map UInt8.toNat) := rfl

@[simp] theorem get_bindE_some (t : Nat) (v : AV) (u : Nat) : (bindE (some t) e v).get u = if t = u then v else e.get u := by
  show (En.bind t v e).get u = _
  rw [En.get_bind]
  by_cases h : u = t
  · subst h; simp
  · rw [if_neg h, if_neg (fun h' => h h'.symm)]
@[simp] theorem get_bindE_none (v : AV) (u : Nat) : (bindE none e v).get u = e.get u := rfl

/-- What is done with a value and a heap. -/
def thenV (r : VH) (K : AV → AH → Prop) : Prop := match r with | .done v A => K v A | .stuck _ => False
@[simp] theorem thenV_done (v : AV) (K : AV → AH → Prop) : thenV (.done v A) K = K v A := rfl
@[simp] theorem ofV_some (v : AV) : VH.ofV A (some v) = .done v A := rfl
@[simp] theorem ofH_some : VH.ofH (some A) = .done .any A := rfl
@[simp] theorem of_some (v : AV) : VH.of (some (v, A)) = .done v A := rfl

@[simp] theorem opA_move (x : Operand) : opA (.move x) P s e A = .done (opnd x e) A := rfl
@[simp] theorem opA_assign (x : Operand) : opA (.assign x) P s e A = .done (opnd x e) A := rfl
@[simp] theorem opA_binOp (op : BinOp) (T : TypeId) (x y : Operand) (c : TypeId) : opA (.binOp op T x y c) P s e A = .ofV A (binA P op T (opnd x e) (opnd y e)) := rfl
@[simp] theorem opA_unOp (op : UnOp) (T : TypeId) (x : Operand) : opA (.unOp op T x) P s e A = .ofV A (unA op (opnd x e)) := rfl
@[simp] theorem opA_load (T : TypeId) (a : Operand) : opA (.load T a) P s e A = .ofV A (loadA P A T (opnd a e)) := rfl
@[simp] theorem opA_lookup (M : TypeId) (m k : Operand) (ok : Bool) : opA (.lookup M m k ok) P s e A = .ofV A (lookupA P A M (opnd m e) (opnd k e) ok) := rfl
@[simp] theorem opA_store (T : TypeId) (a v : Operand) : opA (.store T a v) P s e A = .ofH (storeA P A T (opnd a e) (opnd v e)) := rfl
@[simp] theorem opA_mapUpdate (M : TypeId) (m k v : Operand) : opA (.mapUpdate M m k v) P s e A = .ofH (mapSet P A M (opnd m e) (opnd k e) (opnd v e)) := rfl
@[simp] theorem opA_insert (M : TypeId) (m k v : Operand) : opA (.insert M m k v) P s e A = .ofH (mapSet P A M (opnd m e) (opnd k e) (opnd v e)) := rfl
@[simp] theorem opA_pick (c a b : Operand) : opA (.pick c a b) P s e A = .ofV A (match opnd c e with | .bool t => some (if t then opnd a e else opnd b e) | _ => none) := by
  show VH.ofV A (light (.pick c a b) P e) = _
  simp only [light]
  cases opnd c e <;> first | rfl | (rename_i t; cases t <;> rfl)
@[simp] theorem opA_nilCheck (x : Operand) : opA (.nilCheck x) P s e A = .ofV A (match opnd x e with | .ptr β o => some (.ptr β o) | .func f a b => some (.func f a b) | _ => none) := rfl
@[simp] theorem opA_extract (t : Operand) (i : Nat) : opA (.extract t i) P s e A = .ofV A (match opnd t e with | .tup vs => nth vs i | _ => none) := rfl
@[simp] theorem opA_next' (it : Operand) : opA (.next it false) P s e A = .of (nextA A (opnd it e)) := rfl
@[simp] theorem opA_range (T : TypeId) (x : Operand) : opA (.range T x) P s e A = .of (rangeA P A T (opnd x e)) := rfl
@[simp] theorem opA_entry (it : Operand) : opA (.entry it) P s e A = .ofV A (reads (.entry it) P e A) := rfl
@[simp] theorem opA_alloc (T : TypeId) : opA (.alloc T) P s e A = newA A (match zeroCells P T with | some z => some (.ptr, .cells z) | none => none) := rfl
@[simp] theorem opA_box (T : TypeId) (x : Operand) : opA (.box T x) P s e A = newA A (match cellsOf (opnd x e) with | some cs => some (.ptr, .cells cs) | none => none) := rfl
@[simp] theorem opA_makeFunc (f : FuncId) (a b : Array Operand) : opA (.makeFunc (.func f) a b) P s e A = .done (.func f (a.toList.map fun y => opnd y e) (b.toList.map fun y => opnd y e)) A := rfl
@[simp] theorem opA_makeMap (T : TypeId) : opA (.makeMap T none) P s e A = .done (.map A.next) (A.push (.map [] 0)) := rfl
@[simp] theorem newA_some (nv : NV) (x : AObj) : newA A (some (nv, x)) = .done (nv.at A.next) (A.push x) := rfl
@[simp] theorem NV.at_ptr (β : Nat) : NV.at .ptr β = .ptr β 0 := rfl
@[simp] theorem NV.at_slc (l c z β : Nat) : NV.at (.slc l c z) β = .slice β 0 l c true z := rfl
@[simp] theorem cellsOf_int (k : IntKind) (n : Int) : cellsOf (.int k n) = some [.int k n] := rfl
@[simp] theorem cellsOf_bool (b : Bool) : cellsOf (.bool b) = some [.bool b] := rfl
@[simp] theorem cellsOf_str (l : List Nat) : cellsOf (.str l) = some [.str l] := rfl
@[simp] theorem cellsOf_agg (l : List AV) : cellsOf (.agg l) = some l := rfl
@[simp] theorem cellsOf_ptr (a b : Nat) : cellsOf (.ptr a b) = some [.ptr a b] := rfl
@[simp] theorem cellsOf_slice (a b c d : Nat) (x : Bool) (z : Nat) : cellsOf (.slice a b c d x z) = some [.slice a b c d x z] := rfl
@[simp] theorem cellsOf_nilslice : cellsOf .nilslice = some [.nilslice] := rfl
@[simp] theorem cellsOf_map (a : Nat) : cellsOf (.map a) = some [.map a] := rfl

theorem opA_fieldAddr (S : TypeId) (x : Operand) (f : Nat) {β o off : Nat} {T : TypeId} {z : Nat} (hx : opnd x e = .ptr β o) (hf : fieldOf P S f = some (off, T)) (hz : sizeT P T = some z) : opA (.fieldAddr S x f) P s e A = .done (.ptr β (o + off)) A := by
  show VH.ofV A (light (.fieldAddr S x f) P e) = _
  simp only [light, hx, hf, hz]; rfl
theorem opA_field (S : TypeId) (x : Operand) (f : Nat) {cs : List AV} {off : Nat} {T : TypeId} {v : AV} (hx : opnd x e = .agg cs) (hf : fieldOf P S f = some (off, T)) (hv : partA P T cs off = some v) : opA (.field S x f) P s e A = .done v A := by
  show VH.ofV A (light (.field S x f) P e) = _
  simp only [light, hx, hf, hv]; rfl

/-! numbers -/
attribute [simp] wrapI_eq intEq_eq intLt_eq
theorem wrap64_in {n : Int} (h1 : -9223372036854775808 ≤ n) (h2 : n ≤ 9223372036854775807) : IntKind.i64.wrap n = n := IntWalk.i64_in _ ⟨h1, by omega⟩
@[simp] theorem binA_int (op : BinOp) (T : TypeId) (k k' : IntKind) (a b : Int) : binA P op T (.int k a) (.int k' b) = intBin op k k' a b := rfl
@[simp] theorem intBin_add (k : IntKind) (a b : Int) : intBin .add k k a b = some (.int k (k.wrap (a + b))) := by first | (simp [intBin, intOp]; done) | (simp [intBin, intOp]; rfl)
@[simp] theorem intBin_sub (k : IntKind) (a b : Int) : intBin .sub k k a b = some (.int k (k.wrap (a - b))) := by first | (simp [intBin, intOp]; done) | (simp [intBin, intOp]; rfl)
@[simp] theorem intBin_mul (k : IntKind) (a b : Int) : intBin .mul k k a b = some (.int k (k.wrap (a * b))) := by first | (simp [intBin, intOp]; done) | (simp [intBin, intOp]; rfl)
@[simp] theorem intBin_lss (k : IntKind) (a b : Int) : intBin .lss k k a b = some (.bool (decide (a < b))) := by simp [intBin, intOp]
@[simp] theorem intBin_leq (k : IntKind) (a b : Int) : intBin .leq k k a b = some (.bool (decide (a ≤ b))) := by
  simp [intBin, intOp]; rw [Bool.eq_iff_iff]; simp
@[simp] theorem intBin_gtr (k : IntKind) (a b : Int) : intBin .gtr k k a b = some (.bool (decide (b < a))) := by simp [intBin, intOp]
@[simp] theorem intBin_geq (k : IntKind) (a b : Int) : intBin .geq k k a b = some (.bool (decide (b ≤ a))) := by
  simp [intBin, intOp]; rw [Bool.eq_iff_iff]; simp
@[simp] theorem intBin_eql (k : IntKind) (a b : Int) : intBin .eql k k a b = some (.bool (decide (a = b))) := by
  simp [intBin, intOp]; rw [Bool.eq_iff_iff]; simp
@[simp] theorem intBin_neq (k : IntKind) (a b : Int) : intBin .neq k k a b = some (.bool (decide (a ≠ b))) := by
  simp [intBin, intOp]; rw [Bool.eq_iff_iff]; simp
theorem intBin_quo (k : IntKind) (a b : Int) (h : b ≠ 0) : intBin .quo k k a b = some (.int k (k.wrap (Int.tdiv a b))) := by simp [intBin, intOp, brec, h]
theorem intBin_rem (k : IntKind) (a b : Int) (h : b ≠ 0) : intBin .rem k k a b = some (.int k (Int.tmod a b)) := by simp [intBin, intOp, brec, h]
theorem intBin_shr (k k' : IntKind) (a : Int) (b : Nat) : intBin .shr k k' a (b : Int) = some (.int k (a.fdiv (2 ^ (min b k.bits)))) := by
  show shiftOp .shr k a b = _
  have : ¬ ((b : Int) < 0) := by omega
  simp [shiftOp, brec]
theorem intBin_shl (k k' : IntKind) (a : Int) (b : Nat) : intBin .shl k k' a (b : Int) = some (.int k (k.wrap (a * 2 ^ (min b k.bits)))) := by
  show shiftOp .shl k a b = _
  have : ¬ ((b : Int) < 0) := by omega
  simp [shiftOp, brec]
@[simp] theorem idx_nat (k : IntKind) (m : Nat) : idx (.int k (m : Int)) = some m := rfl
@[simp] theorem idx_lit (k : IntKind) (m : Nat) : idx (.int k (OfNat.ofNat m : Int)) = some m := rfl
@[simp] theorem binA_bool_eq (T : TypeId) (a b : Bool) (h : P.underlying T = some .bool) : binA P .eql T (.bool a) (.bool b) = some (.bool (a == b)) := by
  simp [binA, eqBin, eqOp, h]
@[simp] theorem unA_not (b : Bool) : unA .not (.bool b) = some (.bool (!b)) := rfl

/-! reading and writing -/
theorem loadA_of {T : TypeId} {β o : Nat} {cs : List AV} (h : cellsA (A.get β) = some cs) : loadA P A T (.ptr β o) = partA P T cs o := by simp [loadA, h]
theorem partA_one {T : TypeId} {n : Nat} {cs : List AV} {off : Nat} (h : shapeT P T = some (n, false)) : partA P T cs off = cs[off]? := by simp [partA, h, nth_eq]
theorem partA_agg {T : TypeId} {n : Nat} {cs : List AV} {off : Nat} (h : shapeT P T = some (n, true)) (hl : off + n ≤ cs.length) : partA P T cs off = some (.agg ((cs.drop off).take n)) := by
  simp only [partA, h, takeN_eq, dropN_eq]
  rw [if_pos (by simp; omega)]
theorem storeA_of {T : TypeId} {β o n : Nat} {v : AV} {cs new : List AV} (h : A.get β = some (.cells cs)) (hc : cellsOf v = some new) (hz : sizeT P T = some n) (hn : new.length = n) (hl : o + n ≤ cs.length) :
    storeA P A T (.ptr β o) v = some (A.put β (.cells (cs.take o ++ new ++ cs.drop (o + n)))) := by
  subst hn
  simp only [storeA, h, hc, hz, nbeq]
  have hov : overAt o new cs = some (cs.take o ++ new ++ cs.drop (o + new.length)) := by
    rw [overAt_eq, if_pos hl]
  simp [hov]
@[simp] theorem cellsA_cells (cs : List AV) : cellsA (some (.cells cs)) = some cs := rfl
@[simp] theorem cellsA_ro (cs : List AV) : cellsA (some (.ro cs)) = some cs := rfl

/-! lengths, places -/
noncomputable def lenV (P : Program) (A : AH) (T : TypeId) (v : AV) : Option AV :=
  match lenA P T v with
  | some r => some r
  | none => (match v with
    | .map β => (match A.get β, P.underlying T with | some (.map es _), some (.map _ _) => some (.int .i64 (.ofNat es.length)) | _, _ => none)
    | _ => none)
@[simp] theorem opA_len (x : Operand) (T : TypeId) : opA (.call ⟨.builtin .len, #[x], #[T]⟩) P s e A = .ofV A (lenV P A T (opnd x e)) := by
  show (match light (.call ⟨.builtin .len, #[x], #[T]⟩) P e with | some v => VH.done v A | none => .ofV A (reads (.call ⟨.builtin .len, #[x], #[T]⟩) P e A)) = _
  have h1 : light (.call ⟨.builtin .len, #[x], #[T]⟩) P e = lenA P T (opnd x e) := rfl
  have h2 : reads (.call ⟨.builtin .len, #[x], #[T]⟩) P e A = (match opnd x e with
           | .map β => (match A.get β, P.underlying T with | some (.map es _), some (.map _ _) => some (.int .i64 (.ofNat es.length)) | _, _ => none)
           | _ => none) := rfl
  rw [h1, h2]
  unfold lenV
  cases lenA P T (opnd x e) <;> rfl
@[simp] theorem lenV_slice {T el : TypeId} (h : P.underlying T = some (.slice el)) (β o n c : Nat) (ex : Bool) (z : Nat) : lenV P A T (.slice β o n c ex z) = some (.int .i64 (n : Int)) := by
  simp [lenV, lenA, h]
@[simp] theorem lenV_nil {T el : TypeId} (h : P.underlying T = some (.slice el)) : lenV P A T .nilslice = some (.int .i64 0) := by
  simp [lenV, lenA, h]
@[simp] theorem lenV_str {T : TypeId} (h : P.underlying T = some .string) (l : List Nat) : lenV P A T (.str l) = some (.int .i64 (l.length : Int)) := by
  simp [lenV, lenA, h]
noncomputable def idxV (P : Program) (T : TypeId) (x i : AV) : Option AV :=
  match idx i with
  | some n => (match x with
     | .ptr β o => (match P.underlying T with
        | some (.array len el) => (match sizeT P el, Nat.blt n len with | some z, true => some (.ptr β (Nat.add o (Nat.mul n z))) | _, _ => none)
        | _ => none)
     | .slice β o len _ _ es => (match P.underlying T with
        | some (.slice el) => (match sizeT P el, Nat.blt n len with | some z, true => (match Nat.beq z es with | true => some (.ptr β (Nat.add o (Nat.mul n z))) | false => none) | _, _ => none)
        | _ => none)
     | _ => none)
  | none => none
@[simp] theorem opA_indexAddr (T : TypeId) (x i : Operand) : opA (.indexAddr T x i) P s e A = .ofV A (idxV P T (opnd x e) (opnd i e)) := rfl
theorem idxV_slice {T el z : Nat} (h : P.underlying T = some (.slice el)) (hz : sizeT P el = some z) {β o len c n : Nat} {ex : Bool} {k : IntKind} (hn : n < len) : idxV P T (.slice β o len c ex z) (.int k (n : Int)) = some (.ptr β (o + n * z)) := by
  simp [idxV, h, hz, nblt, hn]
theorem idxV_array {T el z len : Nat} (h : P.underlying T = some (.array len el)) (hz : sizeT P el = some z) {β o n : Nat} {k : IntKind} (hn : n < len) : idxV P T (.ptr β o) (.int k (n : Int)) = some (.ptr β (o + n * z)) := by
  simp [idxV, h, hz, nblt, hn]

variable [LoopTab]
/-- An operation, its continuation. -/
def opV (P : Program) (o : Op) (e : En) (A : AH) (K : AV → AH → Prop) : Prop :=
  match o with
  | .call ⟨.value f, args, _⟩ => (match opnd f e with
     | .func g pre cap => FnW P g (pre ++ (args.toList.map fun y => opnd y e) ++ cap) A K
     | _ => False)
  | o => thenV (opA o P self0 e A) K
theorem OpsW.step {ops : Array Oper} {o : Oper} {l : List Oper} {K : En → AH → Prop} (hw : wantedA ops o.guard e = some true) (h : opV P o.op e A fun r A₁ => OpsW P ops l (bindE o.dst e r) A₁ K) : OpsW P ops (o :: l) e A K := by
  have plain : thenV (opA o.op P self0 e A) (fun r A₁ => OpsW P ops l (bindE o.dst e r) A₁ K) → OpsW P ops (o :: l) e A K := fun h => by
    cases hq : opA o.op P self0 e A with
    | stuck q => rw [hq] at h; exact h.elim
    | done r A₁ => rw [hq] at h; exact OpsW.op hw hq h
  obtain ⟨dst, op, type, pos, after, guard⟩ := o
  cases op
  case call c =>
    obtain ⟨callee, args, tys⟩ := c
    cases callee
    case value f =>
      simp only [opV] at h
      split at h
      · rename_i g pre cap hf
        exact OpsW.call hw rfl hf h
      · exact h.elim
    all_goals exact plain h
  all_goals exact plain h
end
end Go.Ab
namespace Go.Ab
attribute [simp] nth_eq
end Go.Ab

/-! Runs of which the end is not known in advance: a range over a map takes its entries in whatever order. -/
namespace Go.Ab
open Go
variable {P : Program} [LoopTab]

/-- Each run of c from e and A, whichever it is, ends so that Q holds; the names that it makes lie below N1. -/
def DWp (n : Nat) (nr : Bool) (N1 : Nat) (wp : (F : Fence) → (N : Nat) → (Exit → Act → World → Prop) → Act → World → Prop) (e : En) (A : AH) (Q : Ex → En → AH → Prop) : Prop :=
  ∀ F N, Free F → (F.round = none ∨ nr = true) → ∀ {B : Nat} (ρ : Rho) (w : World) (a : Act), HR A ρ w → ER ρ e a → Win A.next N1 ρ → n ≤ a.tmps.size → Marks B A ρ w a.defers →
    ∀ (R : Exit → Act → World → Prop), (∀ x e' A' ρ' a' w', Q x e' A' → ER ρ' e' a' → Step A ρ w A' ρ' w' → A'.next ≤ N1 → n ≤ a'.tmps.size → Marks B A' ρ' w' a'.defers → R (exitOf x) a' w') → wp F N R a w
def DW (P : Program) (n : Nat) (nr : Bool) (N1 : Nat) (c : Code) (e : En) (A : AH) (Q : Ex → En → AH → Prop) : Prop := DWp n nr N1 (fun F N => c.wpIn F N P) e A Q
def DLW (P : Program) (n : Nat) (nr : Bool) (N1 : Nat) (c : Code) (e : En) (A : AH) (Q : Ex → En → AH → Prop) : Prop := DWp n nr N1 (fun F N => LWp F N P c) e A Q

variable {n N1 : Nat} {nr : Bool} {e : En} {A : AH} {Q : Ex → En → AH → Prop}

theorem DW.of_W {c : Code} (h : W P n nr c e A fun x e A => A.next ≤ N1 ∧ Q x e A) : DW P n nr N1 c e A Q := by
  obtain ⟨x, e', A', ⟨m1, r1⟩, hn, hq⟩ := h
  intro F N hF hro B ρ w a hr he hwin hnn hd R hR
  exact r1 F N hF hro ρ w a hr he (hwin.left hn) hnn hd R fun ρ' a' w' q1 q2 q3 q4 => hR x e' A' ρ' a' w' hq q1 q2 hn q3 q4

theorem DWp.mono {wp : (F : Fence) → (N : Nat) → (Exit → Act → World → Prop) → Act → World → Prop} {Q' : Ex → En → AH → Prop} (h : DWp n nr N1 wp e A Q) (hq : ∀ x e A, Q x e A → Q' x e A) : DWp n nr N1 wp e A Q' :=
  fun F N hF hro B ρ w a hr he hwin hnn hd R hR => h F N hF hro (B := B) ρ w a hr he hwin hnn hd R fun x e' A' ρ' a' w' h1 => hR x e' A' ρ' a' w' (hq _ _ _ h1)

theorem DWp.seq {wp wp' wp'' : (F : Fence) → (N : Nat) → (Exit → Act → World → Prop) → Act → World → Prop} (h : DWp n nr N1 wp e A (andThen (fun e A => DWp n nr N1 wp' e A Q) Q))
    (hw : ∀ F N Q a w, wp F N (Exit.then (fun a w => wp' F N Q a w) Q) a w → wp'' F N Q a w) : DWp n nr N1 wp'' e A Q := by
  intro F N hF hro B ρ w a hr he hwin hnn hd R hR
  refine hw F N R a w (h F N hF hro (B := B) ρ w a hr he hwin hnn hd _ fun x e1 A1 ρ1 a1 w1 q0 q1 q2 q3 q4 q5 => ?_)
  cases x with
  | normal =>
    exact q0 F N hF hro (B := B) ρ1 w1 a1 q2.hr q1 (q2.winNext hwin) q4 q5 R fun x e2 A2 ρ2 a2 w2 p0 p1 p2 p3 p4 p5 => hR x e2 A2 ρ2 a2 w2 p0 p1 (q2.trans p2) p3 p4 p5
  | exit j => exact hR (.exit j) e1 A1 ρ1 a1 w1 q0 q1 q2 q3 q4 q5
  | ret => exact hR .ret e1 A1 ρ1 a1 w1 q0 q1 q2 q3 q4 q5
theorem DW.seq {a b : Code} (h : DW P n nr N1 a e A (andThen (fun e A => DW P n nr N1 b e A Q) Q)) : DW P n nr N1 (.seq a b) e A Q :=
  DWp.seq (wp' := fun F N => b.wpIn F N P) h fun _ _ _ _ _ h => wpIn_seq h
theorem DW.block {id : Nat} {a : Code} (h : DW P n nr N1 a e A (endBlock id Q)) : DW P n nr N1 (.block id a) e A Q := by
  intro F N hF hro B ρ w ac hr he hwin hnn hd R hR
  refine wpIn_block (h F N hF hro (B := B) ρ w ac hr he hwin hnn hd _ fun x e1 A1 ρ1 a1 w1 q0 q1 q2 q3 q4 q5 => ?_)
  cases x with
  | normal => exact hR .normal e1 A1 ρ1 a1 w1 q0 q1 q2 q3 q4 q5
  | ret => exact hR .ret e1 A1 ρ1 a1 w1 q0 q1 q2 q3 q4 q5
  | exit j =>
    simp only [endBlock] at q0
    show Exit.inBlock id R (.exit j) a1 w1
    by_cases hj : j = id
    · rw [if_pos hj] at q0
      simp only [Exit.inBlock, hj, if_true]
      exact hR .normal e1 A1 ρ1 a1 w1 q0 q1 q2 q3 q4 q5
    · rw [if_neg hj] at q0
      simp only [Exit.inBlock, hj, if_false]
      exact hR (.exit j) e1 A1 ρ1 a1 w1 q0 q1 q2 q3 q4 q5
theorem DW.cond {c : Operand} {a b : Code} (t : Bool) (hc : opnd c e = .bool t) (h : DW P n nr N1 (if t then a else b) e A Q) : DW P n nr N1 (.cond c a b) e A Q := by
  intro F N hF hro B ρ w ac hr he hwin hnn hd R hR
  have hv : ac.eval c = .bool t := by
    have := opnd_sound (ρ := ρ) (e := e) (a := ac) (x := c) fun t _ => he t
    rw [hc] at this; exact this
  exact wpIn_cond hv (h F N hF hro (B := B) ρ w ac hr he hwin hnn hd R hR)
theorem DLW.step {c : Code} (h : DW P n nr N1 c e A (andThen (fun e A => DLW P n nr N1 c e A Q) Q)) : DLW P n nr N1 c e A Q :=
  DWp.seq (wp' := fun F N => LWp F N P c) h fun _ _ _ _ _ h => LWp.step h
theorem DW.loop {c : Code} (h : DLW P n nr N1 c e A Q) : DW P n nr N1 (.loop c) e A Q := fun F N hF hro B ρ w a hr he hwin hnn hd R hR =>
  (h F N hF hro (B := B) ρ w a hr he hwin hnn hd R hR).loop
theorem DLW.induct {c : Code} (I : Nat → En → AH → Prop) (hs : ∀ k e A, I k e A → DW P n nr N1 c e A (andThen (fun e A => ∃ k', k' < k ∧ I k' e A) Q)) : ∀ k e A, I k e A → DLW P n nr N1 c e A Q := by
  intro k
  induction k using Nat.strongRecOn with
  | _ k ih =>
    intro e A hi
    refine DLW.step (DWp.mono (hs k e A hi) fun x e1 A1 h => ?_)
    cases x with
    | normal => obtain ⟨k', h1, h2⟩ := h; exact ih k' h1 e1 A1 h2
    | exit j => exact h
    | ret => exact h

/-- The step of a range over a map, whichever entry it takes. -/
theorem next_run {ρ : Rho} {w : World} (hr : HR A ρ w) {r m since last clock : Nat} {seen : List Nat} {es : List (AV × AV × Nat)} {v : Value} (hi : VR ρ (.ptr r 0) v) (hg : A.get r = some (.iter (some m) since seen last)) (hgm : A.get m = some (.map es clock))
    (hc : (!seen.isEmpty && !es.isEmpty && es.all fun x => Nat.ble last x.2.2) = false) (hlt : ∀ x ∈ es, x.2.2 < since) (ty : TypeId) :
    (((∀ x ∈ es, x.2.2 ∈ seen) ∧ (Instr.next v false ty).run P w = .ok (.tuple #[.bool false]) w)) ∨
    ∃ x ∈ es, x.2.2 ∉ seen ∧ ∃ w' val, (Instr.next v false ty).run P w = .ok val w' ∧ VR ρ (.tup [.bool true, x.1, x.2.1]) val ∧ Step A ρ w (A.put r (.iter (some m) since (seen ++ [x.2.2]) clock)) ρ w' := by
  obtain ⟨b, base, sz, g1, rfl⟩ := hi
  obtain ⟨h0, m', q1, b', x', y', q2, rfl⟩ := hr.iter hg g1
  subst h0
  obtain ⟨ms, q3, q4⟩ := hr.map hgm q2
  have e1 : (getObj b).run P w = .ok (.mapIter (some b') since seen.toArray last) w := by simp [getObj, Sem.run, q1]
  have e2 : (getObj b').run P w = .ok (.map ms clock) w := by simp [getObj, Sem.run, q3]
  have hall : (es.all fun x => Nat.ble last x.2.2) = ms.all fun e => decide (e.born ≥ last) := by
    rw [Ents.all (q := fun e => decide (e.born ≥ last)) q4 fun e m hm => by rw [nble, hm]]
    rw [Array.all_toList]
  have hemp : es.isEmpty = ms.isEmpty := by rw [Ents.isEmpty q4]; simp [Array.isEmpty]
  have hbad : (!seen.toArray.isEmpty && !ms.isEmpty && ms.all fun e => decide (e.born ≥ last)) = false := by
    rw [← hc, hall, hemp]; simp
  -- the entries, paired
  have pair : ∀ (es : List (AV × AV × Nat)) (ms : List MapEntry), Ents ρ es ms → ∀ me ∈ ms, ∃ x ∈ es, VR ρ x.1 me.key ∧ VR ρ x.2.1 me.val ∧ me.born = x.2.2 := by
    intro es
    induction es with
    | nil => intro ms h me hm; cases ms with
      | nil => cases hm
      | cons => exact h.elim
    | cons a es ih => intro ms h me hm; cases ms with
      | nil => cases hm
      | cons m ms =>
        obtain ⟨k, v, n⟩ := a
        obtain ⟨h1, h2, h3, h4⟩ := h
        rcases List.mem_cons.1 hm with rfl | hm
        · exact ⟨(k, v, n), List.mem_cons_self, h1, h2, h3⟩
        · obtain ⟨x, hx, hh⟩ := ih ms h4 me hm
          exact ⟨x, List.mem_cons_of_mem _ hx, hh⟩
  have pair' : ∀ (es : List (AV × AV × Nat)) (ms : List MapEntry), Ents ρ es ms → ∀ x ∈ es, ∃ me ∈ ms, me.born = x.2.2 := by
    intro es
    induction es with
    | nil => intro ms _ x hx; cases hx
    | cons a es ih => intro ms h x hx; cases ms with
      | nil => exact h.elim
      | cons m ms =>
        obtain ⟨k, v, n⟩ := a
        obtain ⟨h1, h2, h3, h4⟩ := h
        rcases List.mem_cons.1 hx with rfl | hx
        · exact ⟨m, List.mem_cons_self, h3⟩
        · obtain ⟨me, hm, hh⟩ := ih ms h4 x hx
          exact ⟨me, List.mem_cons_of_mem _ hm, hh⟩
  generalize hL : ms.filter (fun e => !seen.toArray.contains e.born) = L
  have hLm : ∀ me, me ∈ L ↔ me ∈ ms ∧ me.born ∉ seen := fun me => by rw [← hL]; simp
  have f1 : L.filter (fun x => decide (x.born < since)) = L := Array.filter_eq_self.2 fun me hme => by
    obtain ⟨x, hx, _, _, hb⟩ := pair es ms.toList q4 me (by simpa using ((hLm me).1 hme).1)
    rw [hb]; simpa using hlt x hx
  have f2 : L.filter (fun x => decide (x.born ≥ since)) = #[] := by
    rw [Array.filter_eq_empty_iff]
    intro me hme
    obtain ⟨x, hx, _, _, hb⟩ := pair es ms.toList q4 me (by simpa using ((hLm me).1 hme).1)
    have := hlt x hx
    rw [hb]; simp; omega
  by_cases h0 : L.size = 0
  · left
    have hn : L = #[] := Array.eq_empty_of_size_eq_zero h0
    refine ⟨fun x hx => ?_, ?_⟩
    · obtain ⟨me, hm, hb⟩ := pair' es ms.toList q4 x hx
      by_cases hs : me.born ∈ seen
      · rw [← hb]; exact hs
      · have := (hLm me).2 ⟨by simpa using hm, hs⟩
        rw [hn] at this; simp at this
    · simp only [Instr.next, Sem.run_bind, e1, Result.andThen_ok, e2, hbad, hL, Bool.false_eq_true, if_false, f1, f2, Array.append_empty]
      subst hn
      simp [Question.forced]
  · right
    have hne : L.isEmpty = false := by simp [Array.isEmpty, h0]
    have hch : ∃ (j : Nat) (w1 : World), j < L.size ∧ w1.heap = w.heap ∧ w1.os = w.os ∧ w1.output = w.output ∧ w1.tape = w.tape ∧ (choose (Question.mapNext L.size)).run P w = .ok j w1 := by
      by_cases hf : L.size ≤ 1
      · exact ⟨0, w, by omega, rfl, rfl, rfl, rfl, by simp [Question.forced, hf]⟩
      · exact ⟨w.tape w.drawn (Question.mapNext L.size) % L.size, w.drew, Nat.mod_lt _ (by omega), rfl, rfl, rfl, rfl, by
          rw [run_choose_drew]
          simp only [Question.forced, decide_eq_true_eq, hf, if_false, Question.cut]⟩
    obtain ⟨j, w1, hj, k1, k2, k3, k4, hrun⟩ := hch
    obtain ⟨x, hx, p1, p2, p3⟩ := pair es ms.toList q4 L[j] (by simpa using ((hLm L[j]).1 (Array.getElem_mem hj)).1)
    have hns : x.2.2 ∉ seen := by rw [← p3]; exact ((hLm L[j]).1 (Array.getElem_mem hj)).2
    refine ⟨x, hx, hns, { w1 with heap := w1.heap.setIfInBounds b (.mapIter (some b') since (seen.toArray.push L[j].born) clock) }, .tuple #[.bool true, L[j].key, L[j].val], ?_, ⟨_, rfl, rfl, p1, p2, trivial⟩, ?_⟩
    · have hso : ∀ o, (setObj b o).run P w1 = .ok () { w1 with heap := w1.heap.setIfInBounds b o } := fun o => by simp [setObj, Sem.run, k1, q1]
      simp only [Instr.next, Sem.run_bind, e1, Result.andThen_ok, e2, hbad, hL, Bool.false_eq_true, if_false, f1, f2, Array.append_empty, hne, Array.empty_append, Array.size_map, hrun, Array.getElem?_map, Array.getElem?_eq_getElem hj, Option.map_some, hso, Sem.run_pure]
    · have hb := (Array.getElem?_eq_some_iff.1 q1).1
      have st1 : Step A ρ w A ρ w1 := Step.heap hr k1 ⟨k2, k3, k4⟩
      have q1' : w1.heap[b]? = some (.mapIter (some b') since seen.toArray last) := by rw [k1]; exact q1
      exact st1.trans (Step.obj st1.hr hg rfl g1 q1' (o' := .mapIter (some b') since (seen.toArray.push L[j].born) clock) ⟨rfl, some b', by simp [k1, hb, p3], b', x', y', q2, rfl⟩)

/-- A region that begins with the step of a range over a map. -/
theorem DW.region_next {id : Nat} {ops : Array Oper} {o : Oper} {l : List Oper} {it : Operand} (hd : dstsOK n ops.toList = true) (hops : ops.toList = o :: l) (ho : o.op = .next it false) (hgd : o.guard = none) {r m since last clock : Nat} {seen : List Nat} {es : List (AV × AV × Nat)} (hit : opnd it e = .ptr r 0) (hg : A.get r = some (.iter (some m) since seen last)) (hgm : A.get m = some (.map es clock))
    (hc : (!seen.isEmpty && !es.isEmpty && es.all fun x => Nat.ble last x.2.2) = false) (hlt : ∀ x ∈ es, x.2.2 < since) (hN : A.next ≤ N1)
    (h0 : (∀ x ∈ es, x.2.2 ∈ seen) → OpsW P ops l (bindE o.dst e (.tup [.bool false])) A fun e A => A.next ≤ N1 ∧ Q .normal e A)
    (h1 : ∀ x ∈ es, x.2.2 ∉ seen → OpsW P ops l (bindE o.dst e (.tup [.bool true, x.1, x.2.1])) (A.put r (.iter (some m) since (seen ++ [x.2.2]) clock)) fun e A => A.next ≤ N1 ∧ Q .normal e A) : DW P n nr N1 (.region id ops false) e A Q := by
  intro F N hF hro B ρ w a hr he hwin hnn hdf R hR
  refine wpIn_region ?_
  have hsz : ops.size = l.length + 1 := by rw [← Array.length_toList, hops]; rfl
  have hget : ∀ k, ops[k]? = (o :: l)[k]? := fun k => by rw [← hops, Array.getElem?_toList]
  rw [List.range_eq_range', hsz, List.range'_succ, wpOpsIn_cons]
  unfold wpOpIn
  rw [hget 0, List.getElem?_cons_zero]
  simp only
  have hw : wantedA ops o.guard e = some true := by rw [hgd]; rfl
  rw [wanted_sound hw he]
  simp only [if_true]
  have hd := dstsOK_some hd
  have hVit : VR ρ (.ptr r 0) (a.eval it) := by
    have := opnd_sound (ρ := ρ) (e := e) (a := a) (x := it) fun t _ => he t
    rw [hit] at this; exact this
  have hexec : ∀ val w', (Instr.next (a.eval it) false o.type).run P w = .ok val w' → (execOp a.eval o).run P w = .ok (.value val) w' := fun val w' h => by
    obtain ⟨dst, op, type, pos, after, guard⟩ := o
    simp only at ho
    subst ho
    simp only [execOp]
    exact run_value _ _ _ _ h
  have hdef : ∀ c, o.op ≠ .defer c := fun c h => by rw [ho] at h; cases h
  have go : ∀ (v : AV) (val : Value) (A1 : AH) (w' : World), VR ρ v val → Step A ρ w A1 ρ w' → A1.next = A.next → OpsW P ops l (bindE o.dst e v) A1 (fun e A => A.next ≤ N1 ∧ Q .normal e A) → wpOpsIn F N P ops R (List.range' 1 l.length) (a.put o.dst val) w' := by
    intro v val A1 w' q1 q2 q3 ⟨e', A', ⟨m1, hrun⟩, hn', hq⟩
    have hd0 : ∀ t, o.dst = some t → t < a.tmps.size := fun t ht => Nat.lt_of_lt_of_le (hd 0 o (by rw [hget]; rfl) t ht) hnn
    refine hrun hF 1 (fun k hk => by rw [hget, Nat.add_comm, List.getElem?_cons_succ]) q2.hr (he.put (fun _ _ h => h) q1 hd0) (fun β h1 h2 => hwin β (by omega) (by omega)) (fun i o' hi t ht => by rw [size_put]; exact Nat.lt_of_lt_of_le (hd i o' hi t ht) hnn) fun ρ' a' w'' r1 r2 r3 r4 => ?_
    exact hR .normal e' A' ρ' a' w'' hq r1 (q2.trans r2) hn' (by rw [r4, size_put]; exact hnn) (by rw [r3, defers_put]; exact hdf.step (q2.trans r2))
  rcases next_run (P := P) hr hVit hg hgm hc hlt o.type with ⟨g1, g2⟩ | ⟨x, hx, hns, w', val, g1, g2, g3⟩
  · exact wpIn_value hF hdef (hexec _ _ g2) (go (.tup [.bool false]) _ A w ⟨_, rfl, rfl, trivial⟩ (Step.refl hr) rfl (h0 g1))
  · exact wpIn_value hF hdef (hexec _ _ g1) (go _ val _ w' g2 g3 rfl (h1 x hx hns))
end Go.Ab

/-! Regions whose order is drawn, carried out along a plan of which no read is asked twice. -/
namespace Go.Ab
open Go
variable {P : Program} [LoopTab]

/-- Places of a plan, one behind the other: the slots, the heap, and the heap behind the last heavy operation. -/
inductive RS (P : Program) (ops : Array Oper) (s : Self) : List (Nat × Nat) → En → AH → AH → En → AH → Prop
  | nil {e : En} {A H : AH} : RS P ops s [] e A H e A
  | pure {i : Nat} {l : List (Nat × Nat)} {o : Oper} {e e' : En} {A H A' : AH} {v : AV} (hi : ops[i]? = some o) (hw : wantedA ops o.guard e = some true) (hc : cls o.op = .pure) (h : light o.op P e = some v) (t : RS P ops s l (bindE o.dst e v) A H e' A') : RS P ops s ((i, 0) :: l) e A H e' A'
  | read {i : Nat} {l : List (Nat × Nat)} {o : Oper} {e e' : En} {A H A' : AH} {v : AV} (hi : ops[i]? = some o) (hw : wantedA ops o.guard e = some true) (hc : cls o.op = .read) (h : readA P o.op e H = some v) (t : RS P ops s l (bindE o.dst e v) A H e' A') : RS P ops s ((i, 0) :: l) e A H e' A'
  | alloc {i : Nat} {l : List (Nat × Nat)} {o : Oper} {e e' : En} {A H A' : AH} {nv : NV} {x : AObj} (hi : ops[i]? = some o) (hw : wantedA ops o.guard e = some true) (hc : cls o.op = .alloc) (h : allocL o.op P e = some (nv, x)) (t : RS P ops s l (bindE o.dst e (nv.at A.next)) (A.push x) H e' A') : RS P ops s ((i, 0) :: l) e A H e' A'
  | heavy {i : Nat} {l : List (Nat × Nat)} {o : Oper} {e e' : En} {A H A₁ A' : AH} {v : AV} (hi : ops[i]? = some o) (hw : wantedA ops o.guard e = some true) (hc : cls o.op = .heavy) (h : opA o.op P s e A = .done v A₁) (t : RS P ops s l (bindE o.dst e v) A₁ A₁ e' A') : RS P ops s ((i, 0) :: l) e A H e' A'
  | un {i : Nat} {l : List (Nat × Nat)} {o : Oper} {e e' : En} {A H A' : AH} (hi : ops[i]? = some o) (hw : wantedA ops o.guard e = some false) (hc : cls o.op ≠ .heavy) (t : RS P ops s l (bindE o.dst e (.tup [])) A H e' A') : RS P ops s ((i, 0) :: l) e A H e' A'

theorem RS.run {ops : Array Oper} {s : Self} {l : List (Nat × Nat)} {e e' : En} {A H A' : AH} (h : RS P ops s l e A H e' A') : ∀ hs, ∃ hs', runP P ops none (l.map fun p => (p.2, ops[p.1]?)) s e A (H :: hs) .none = .done e' A' hs' .none := by
  induction h with
  | nil => exact fun hs => ⟨_, rfl⟩
  | pure hi hw hc h _ ih =>
    intro hs
    obtain ⟨hs', ih⟩ := ih hs
    refine ⟨hs', ?_⟩
    rw [List.map_cons, runP_cons, hi]
    simp only [stepP, hw, clsL, hc, h, bindO]
    exact ih
  | read hi hw hc h _ ih =>
    intro hs
    obtain ⟨hs', ih⟩ := ih hs
    refine ⟨hs', ?_⟩
    rw [List.map_cons, runP_cons, hi]
    simp only [stepP, hw, clsL, hc, readP, h, backA]
    exact ih
  | alloc hi hw hc h _ ih =>
    intro hs
    obtain ⟨hs', ih⟩ := ih hs
    refine ⟨hs', ?_⟩
    rw [List.map_cons, runP_cons, hi]
    simp only [stepP, hw, clsL, hc, allocP, h]
    exact ih
  | @heavy _ _ _ _ _ _ H _ _ _ hi hw hc h _ ih =>
    intro hs
    obtain ⟨hs', ih⟩ := ih (H :: hs)
    refine ⟨hs', ?_⟩
    rw [List.map_cons, runP_cons, hi]
    simp only [stepP, hw, clsL, hc, heavyP, h]
    exact ih
  | @un _ _ o _ _ _ _ _ hi hw hc _ ih =>
    intro hs
    obtain ⟨hs', ih⟩ := ih hs
    refine ⟨hs', ?_⟩
    rw [List.map_cons, runP_cons, hi]
    have hh : isHeavy (clsL none o) = false := by
      simp only [clsL]
      cases hq : cls o.op <;> first | rfl | exact absurd hq hc
    simp only [stepP, hw, hh]
    exact ih

/-- The same with what is asked behind it. -/
def RSW (P : Program) (ops : Array Oper) (s : Self) (l : List (Nat × Nat)) (e : En) (A H : AH) (K : En → AH → Prop) : Prop := ∃ e' A', RS P ops s l e A H e' A' ∧ K e' A'
variable {ops : Array Oper} {s : Self} {l : List (Nat × Nat)} {e : En} {A H : AH} {K : En → AH → Prop} {i : Nat} {o : Oper}

theorem RSW.nil (h : K e A) : RSW P ops s [] e A H K := ⟨e, A, .nil, h⟩
def thenO {α : Type} (r : Option α) (K : α → Prop) : Prop := match r with | some v => K v | none => False
@[simp] theorem thenO_some {α : Type} (v : α) (K : α → Prop) : thenO (some v) K = K v := rfl
/-- One place, by its class. -/
def stepV (P : Program) (s : Self) (o : Oper) (e : En) (A H : AH) (K : AV → AH → AH → Prop) : Prop :=
  match cls o.op with
  | .pure => thenO (light o.op P e) fun v => K v A H
  | .read => thenO (readA P o.op e H) fun v => K v A H
  | .alloc => thenO (allocL o.op P e) fun r => K (r.1.at A.next) (A.push r.2) H
  | .heavy => thenV (opA o.op P s e A) fun v A₁ => K v A₁ A₁
  | _ => False
theorem RSW.step (hi : ops[i]? = some o) (hw : wantedA ops o.guard e = some true) (h : stepV P s o e A H fun v A₁ H₁ => RSW P ops s l (bindE o.dst e v) A₁ H₁ K) : RSW P ops s ((i, 0) :: l) e A H K := by
  unfold stepV at h
  split at h
  · rename_i hc
    cases hq : light o.op P e with
    | none => rw [hq] at h; exact h.elim
    | some v => rw [hq] at h; obtain ⟨e', A', h1, h2⟩ := h; exact ⟨e', A', .pure hi hw hc hq h1, h2⟩
  · rename_i hc
    cases hq : readA P o.op e H with
    | none => rw [hq] at h; exact h.elim
    | some v => rw [hq] at h; obtain ⟨e', A', h1, h2⟩ := h; exact ⟨e', A', .read hi hw hc hq h1, h2⟩
  · rename_i hc
    cases hq : allocL o.op P e with
    | none => rw [hq] at h; exact h.elim
    | some v => rw [hq] at h; obtain ⟨e', A', h1, h2⟩ := h; exact ⟨e', A', .alloc hi hw hc hq h1, h2⟩
  · rename_i hc
    cases hq : opA o.op P s e A with
    | stuck q => rw [hq] at h; exact h.elim
    | done v A₁ => rw [hq] at h; obtain ⟨e', A', h1, h2⟩ := h; exact ⟨e', A', .heavy hi hw hc hq h1, h2⟩
  · exact h.elim
theorem RSW.un (hi : ops[i]? = some o) (hw : wantedA ops o.guard e = some false) (hc : cls o.op ≠ .heavy) (h : RSW P ops s l (bindE o.dst e (.tup [])) A H K) : RSW P ops s ((i, 0) :: l) e A H K := by
  obtain ⟨e', A', h1, h2⟩ := h; exact ⟨e', A', .un hi hw hc h1, h2⟩

theorem W.drawnS {n : Nat} {nr : Bool} {id : Nat} {Q : Ex → En → AH → Prop} (hm : P.follows .mixedOrders = true) (hs : CallsOK P s) (pl : List (Nat × Nat)) (hd : dstsOK n ops.toList = true) (hok : planOK ops none pl = true) (h : RSW P ops s pl e A A fun e A => Q .normal e A) : W P n nr (.region id ops true) e A Q := by
  obtain ⟨e', A', h1, h2⟩ := h
  obtain ⟨hs', hrun⟩ := h1.run []
  exact W.drawn hm hs pl hd hok hrun h2

/-! the operations of each class, for 'simp' -/
section
variable {x y : Operand}
@[simp] theorem light_move : light (.move x) P e = some (opnd x e) := rfl
@[simp] theorem light_assign : light (.assign x) P e = some (opnd x e) := rfl
@[simp] theorem light_binOp (op : BinOp) (T : TypeId) (c : TypeId) : light (.binOp op T x y c) P e = binA P op T (opnd x e) (opnd y e) := rfl
@[simp] theorem light_unOp (op : UnOp) (T : TypeId) : light (.unOp op T x) P e = unA op (opnd x e) := rfl
@[simp] theorem light_extract (t : Operand) (i : Nat) : light (.extract t i) P e = (match opnd t e with | .tup vs => nth vs i | _ => none) := rfl
@[simp] theorem light_nilCheck : light (.nilCheck x) P e = (match opnd x e with | .ptr β o => some (.ptr β o) | .func f a b => some (.func f a b) | _ => none) := rfl
@[simp] theorem light_indexAddr (T : TypeId) : light (.indexAddr T x y) P e = idxV P T (opnd x e) (opnd y e) := rfl
@[simp] theorem light_pick (c a b : Operand) : light (.pick c a b) P e = (match opnd c e with | .bool t => some (if t then opnd a e else opnd b e) | _ => none) := by
  simp only [light]
  cases opnd c e <;> first | rfl | (rename_i t; cases t <;> rfl)
@[simp] theorem readA_load (T : TypeId) : readA P (.load T x) e H = loadA P H T (opnd x e) := rfl
@[simp] theorem readA_lookup (M : TypeId) (ok : Bool) : readA P (.lookup M x y ok) e H = lookupA P H M (opnd x e) (opnd y e) ok := rfl
@[simp] theorem readA_len (T : TypeId) : readA P (.call ⟨.builtin .len, #[x], #[T]⟩) e H = lenV P H T (opnd x e) := by
  have h1 : light (.call ⟨.builtin .len, #[x], #[T]⟩) P e = lenA P T (opnd x e) := rfl
  have h2 : reads (.call ⟨.builtin .len, #[x], #[T]⟩) P e H = (match opnd x e with
           | .map β => (match H.get β, P.underlying T with | some (.map es _), some (.map _ _) => some (.int .i64 (.ofNat es.length)) | _, _ => none)
           | _ => none) := rfl
  unfold readA lenV
  rw [h1, h2]
  cases lenA P T (opnd x e) <;> rfl
end
theorem opA_callf {s : Self} (f : FuncId) (args : Array Operand) (tys : Array TypeId) : opA (.call ⟨.value (.func f), args, tys⟩) P s e A = .ofC (s.call f ([] ++ (args.toList.map fun y => opnd y e) ++ []) A) := rfl
@[simp] theorem VH.ofC_done (v : AV) (A : AH) : VH.ofC (.done v A) = .done v A := rfl
theorem allocL_alloc {T : TypeId} {z : List AV} (h : zeroCells P T = some z) : allocL (.alloc T) P e = some (.ptr, .cells z) := by simp [allocL, h]
/-- the address of a field -/
noncomputable def fieldV (P : Program) (S f : Nat) (v : AV) : Option AV :=
  match v with
     | .ptr β o => (match fieldOf P S f with
        | some (off, T) => (match sizeT P T with | some _ => some (.ptr β (Nat.add o off)) | none => none)
        | none => none)
     | _ => none
@[simp] theorem light_fieldAddr {x : Operand} (S f : Nat) : light (.fieldAddr S x f) P e = fieldV P S f (opnd x e) := rfl
@[simp] theorem opA_fieldAddr' {x : Operand} (S f : Nat) : opA (.fieldAddr S x f) P s e A = .ofV A (fieldV P S f (opnd x e)) := rfl
theorem fieldV_ptr {S f β o off z : Nat} {T : TypeId} (hf : fieldOf P S f = some (off, T)) (hz : sizeT P T = some z) : fieldV P S f (.ptr β o) = some (.ptr β (o + off)) := by
  simp [fieldV, hf, hz]
noncomputable def fldV (P : Program) (S f : Nat) (v : AV) : Option AV :=
  match v with
     | .agg cs => (match fieldOf P S f with | some (off, T) => partA P T cs off | none => none)
     | _ => none
@[simp] theorem light_field {x : Operand} (S f : Nat) : light (.field S x f) P e = fldV P S f (opnd x e) := rfl
@[simp] theorem opA_field' {x : Operand} (S f : Nat) : opA (.field S x f) P s e A = .ofV A (fldV P S f (opnd x e)) := rfl
theorem fldV_agg {S f off : Nat} {T : TypeId} (cs : List AV) (hf : fieldOf P S f = some (off, T)) : fldV P S f (.agg cs) = partA P T cs off := by
  simp [fldV, hf]
end Go.Ab

/-! Slices of a heap, read and grown. -/
namespace Go.Ab
open Go
variable {P : Program} {A A' A0 : AH}

/-- The heap has grown: what was there is as it was. -/
def Ext (A A' : AH) : Prop := A.next ≤ A'.next ∧ ∀ γ, γ < A.next → A'.get γ = A.get γ
theorem Ext.refl (A : AH) : Ext A A := ⟨Nat.le_refl _, fun _ _ => rfl⟩
theorem Ext.trans {A B C : AH} (h : Ext A B) (k : Ext B C) : Ext A C := ⟨Nat.le_trans h.1 k.1, fun γ hγ => (k.2 γ (Nat.lt_of_lt_of_le hγ h.1)).trans (h.2 γ hγ)⟩
theorem Ext.push (h : Ext A0 A) (x : AObj) : Ext A0 (A.push x) := ⟨Nat.le_succ_of_le h.1, fun γ hγ => by
  rw [AH.get_push, if_neg (by have := h.1; omega)]; exact h.2 γ hγ⟩
theorem Ext.put (h : Ext A0 A) {β : Nat} (hβ : A0.next ≤ β) (x : AObj) : Ext A0 (A.put β x) := ⟨h.1, fun γ hγ => by
  rw [AH.get_put, if_neg (by omega)]; exact h.2 γ hγ⟩

/-- block and place of a slice -/
def pb (v : AV) : Nat := match v with | .slice β _ _ _ _ _ => β | _ => 0
def po (v : AV) : Nat := match v with | .slice _ o _ _ _ _ => o | _ => 0
@[simp] theorem pb_slice (β o n c : Nat) (x : Bool) (z : Nat) : pb (.slice β o n c x z) = β := rfl
@[simp] theorem po_slice (β o n c : Nat) (x : Bool) (z : Nat) : po (.slice β o n c x z) = o := rfl

/-- v is a slice of n elements of z cells each. -/
def SlW (A : AH) (v : AV) (z n : Nat) (cells : List AV) : Prop := ((v = .nilslice ∨ v = .slice 0 0 0 0 true z) ∧ n = 0 ∧ cells = []) ∨
  ∃ β off cap ex cs, v = .slice β off n cap ex z ∧ cellsA (A.get β) = some cs ∧ off + n * z ≤ cs.length ∧ cells = (cs.drop off).take (n * z) ∧ β < A.next ∧ n ≤ cap

theorem SlW.ext {v : AV} {z n : Nat} {cells : List AV} (h : SlW A v z n cells) (hx : Ext A A') : SlW A' v z n cells := by
  rcases h with h | ⟨β, off, cap, ex, cs, h1, h2, h3, h4, h5, h6⟩
  · exact .inl h
  · exact .inr ⟨β, off, cap, ex, cs, h1, by rw [hx.2 β h5]; exact h2, h3, h4, Nat.lt_of_lt_of_le h5 hx.1, h6⟩
theorem SlW.length {v : AV} {z n : Nat} {cells : List AV} (h : SlW A v z n cells) : cells.length = n * z := by
  rcases h with ⟨_, rfl, rfl⟩ | ⟨β, off, cap, ex, cs, _, _, h3, rfl, _⟩
  · simp
  · simp; omega
theorem SlW.len {v : AV} {z n : Nat} {cells : List AV} (h : SlW A v z n cells) {T el : TypeId} (hu : P.underlying T = some (.slice el)) : lenV P A' T v = some (.int .i64 (n : Int)) := by
  rcases h with ⟨rfl | rfl, rfl, rfl⟩ | ⟨β, off, cap, ex, cs, rfl, _⟩
  · rw [lenV_nil hu]; rfl
  · exact lenV_slice hu _ _ _ _ _ _
  · exact lenV_slice hu _ _ _ _ _ _
theorem SlW.idx {v : AV} {z n : Nat} {cells : List AV} (h : SlW A v z n cells) {T el i : Nat} {k : IntKind} (hu : P.underlying T = some (.slice el)) (hz : sizeT P el = some z) (hi : i < n) : idxV P T v (.int k (i : Int)) = some (.ptr (pb v) (po v + i * z)) := by
  rcases h with ⟨_, rfl, _⟩ | ⟨β, off, cap, ex, cs, rfl, _⟩
  · omega
  · exact idxV_slice hu hz hi
theorem SlW.cell {v : AV} {z n : Nat} {cells : List AV} (h : SlW A v z n cells) {T i o m : Nat} (hs : shapeT P T = some (m, false)) (hi : i < n) (ho : o < z) : loadA P A T (.ptr (pb v) (po v + i * z + o)) = cells[i * z + o]? := by
  rcases h with ⟨_, rfl, _⟩ | ⟨β, off, cap, ex, cs, rfl, h2, h3, rfl, _⟩
  · omega
  · rw [loadA_of (by exact h2), partA_one hs]
    have hlt : i * z + o < n * z := by
      have : (i + 1) * z ≤ n * z := Nat.mul_le_mul_right z hi
      rw [Nat.add_mul] at this; omega
    rw [List.getElem?_take_of_lt hlt, List.getElem?_drop, po_slice]
    congr 1; omega
theorem SlW.agg {v : AV} {z n : Nat} {cells : List AV} (h : SlW A v z n cells) {T i : Nat} (hs : shapeT P T = some (z, true)) (hi : i < n) : loadA P A T (.ptr (pb v) (po v + i * z)) = some (.agg ((cells.drop (i * z)).take z)) := by
  rcases h with ⟨_, rfl, _⟩ | ⟨β, off, cap, ex, cs, rfl, h2, h3, rfl, _⟩
  · omega
  · have hle : (i + 1) * z ≤ n * z := Nat.mul_le_mul_right z hi
    rw [Nat.add_mul] at hle
    rw [loadA_of (by exact h2), partA_agg hs (by rw [po_slice]; omega), po_slice]
    congr 2
    rw [List.drop_take, List.take_take, List.drop_drop, Nat.min_eq_left (by omega)]

/-! lists of ints -/
abbrev IV (n : Int) : AV := .int .i64 n
/-- the element at a place -/
def ix (l : List Int) (i : Nat) : Int := l.getD i 0
theorem ix_eq {l : List Int} {i : Nat} (h : i < l.length) : ix l i = l[i] := by simp [ix, h]
theorem ix_mem {l : List Int} {i : Nat} (h : i < l.length) : ix l i ∈ l := by rw [ix_eq h]; exact List.getElem_mem h
theorem take_ix {l : List Int} {i : Nat} (h : i < l.length) : l.take (i + 1) = l.take i ++ [ix l i] := by rw [List.take_succ_eq_append_getElem h, ix_eq h]
/-- more than any slice can hold -/
def Most : Nat := 9223372036854775807
theorem Most_eq : Most = 9223372036854775807 := rfl
def IntSl (A : AH) (v : AV) (l : List Int) : Prop := SlW A v 1 l.length (l.map IV) ∧ l.length ≤ Most
theorem IntSl.ext {v : AV} {l : List Int} (h : IntSl A v l) (hx : Ext A A') : IntSl A' v l := ⟨SlW.ext h.1 hx, h.2⟩
theorem IntSl.len {v : AV} {l : List Int} (h : IntSl A v l) {T el : TypeId} (hu : P.underlying T = some (.slice el)) : lenV P A' T v = some (.int .i64 (l.length : Int)) := SlW.len h.1 hu
theorem IntSl.idx {v : AV} {l : List Int} (h : IntSl A v l) {T el i : Nat} {k : IntKind} (hu : P.underlying T = some (.slice el)) (hz : sizeT P el = some 1) (hi : i < l.length) : idxV P T v (.int k (i : Int)) = some (.ptr (pb v) (po v + i)) := by
  have := SlW.idx h.1 hu hz (k := k) hi; rwa [Nat.mul_one] at this
theorem IntSl.load {v : AV} {l : List Int} (h : IntSl A v l) {T i m : Nat} (hs : shapeT P T = some (m, false)) (hi : i < l.length) : loadA P A T (.ptr (pb v) (po v + i)) = some (IV (ix l i)) := by
  have := SlW.cell h.1 (P := P) (o := 0) hs hi (by omega)
  rw [Nat.add_zero, Nat.mul_one] at this
  rw [this]
  simp [hi, ix]
theorem wrap_succ {i n : Nat} (h : i < n) (hn : n ≤ Most) : IntKind.i64.wrap ((i : Int) + 1) = ((i + 1 : Nat) : Int) := by
  rw [Most_eq] at hn
  rw [wrap64_in (by omega) (by omega)]; omega
theorem take_succ_mem {l : List Int} {i : Nat} (h : i < l.length) {p : Int → Prop} (hp : ∀ x ∈ l.take i, p x) (hi : p (ix l i)) : ∀ x ∈ l.take (i + 1), p x := by
  intro x hx
  rw [take_ix h, List.mem_append, List.mem_singleton] at hx
  rcases hx with hx | rfl
  · exact hp x hx
  · exact hi

/-! the rest of a slice -/
noncomputable def restV (P : Program) (T : TypeId) (v i : AV) : Option AV :=
  match idx i, P.underlying T with
  | some n, some (.slice el) => (match sizeT P el with | some z => sliceA z v (some n) none none | none => none)
  | _, _ => none
theorem opA_rest {e : En} {s : Self} (T : TypeId) (x y : Operand) {el : Nat} (hu : P.underlying T = some (.slice el)) : opA (.slice T x (some y) none none) P s e A = .ofV A (restV P T (opnd x e) (opnd y e)) := by
  have h1 : opA (.slice T x (some y) none none) P s e A = .ofV A (light (.slice T x (some y) none none) P e) := rfl
  rw [h1]
  congr 1
  simp only [light, restV, optIdx, hu]
  cases idx (opnd y e) <;> rfl
theorem SlW.rest {v : AV} {z n : Nat} {cells : List AV} (h : SlW A v z n cells) {T el k : Nat} {kd : IntKind} (hu : P.underlying T = some (.slice el)) (hz : sizeT P el = some z) (hk : k ≤ n) :
    ∃ v', restV P T v (.int kd (k : Int)) = some v' ∧ SlW A v' z (n - k) (cells.drop (k * z)) := by
  rcases h with ⟨hv, rfl, rfl⟩ | ⟨β, off, cap, ex, cs, rfl, h2, h3, rfl, h5, h6⟩
  · have : k = 0 := by omega
    subst this
    have hi0 : Ab.idx (.int kd ((0 : Nat) : Int)) = some 0 := idx_nat _ _
    rcases hv with rfl | rfl
    · exact ⟨.nilslice, by simp only [restV, hu, hz, sliceA, hi0]; rfl, .inl ⟨.inl rfl, rfl, by simp⟩⟩
    · exact ⟨.slice 0 0 0 0 true z, by simp only [restV, hu, hz, hi0, sliceA]; simp [nbeq, nble], .inl ⟨.inr rfl, rfl, by simp⟩⟩
  · have hkz : k * z ≤ n * z := Nat.mul_le_mul_right z hk
    have hsub : (n - k) * z = n * z - k * z := Nat.sub_mul n k z
    cases ex with
    | true =>
      by_cases hc : cap = k
      · have hn : n = k := by omega
        subst hc; subst hn
        refine ⟨.slice β off 0 0 true z, by simp [restV, hu, hz, sliceA, nbeq, nble], .inr ⟨β, off, 0, true, cs, by simp, h2, by simp; omega, by simp, h5, by omega⟩⟩
      · refine ⟨.slice β (off + k * z) (n - k) (cap - k) true z, ?_, .inr ⟨β, off + k * z, cap - k, true, cs, rfl, h2, by omega, ?_, h5, by omega⟩⟩
        · simp [restV, hu, hz, sliceA, nbeq, nble, hk, h6, hc]
        · rw [List.drop_take, List.drop_drop, hsub]
    | false =>
      refine ⟨.slice β (off + k * z) (n - k) (cap - k) false z, ?_, .inr ⟨β, off + k * z, cap - k, false, cs, rfl, h2, by omega, ?_, h5, by omega⟩⟩
      · have : (Nat.blt 0 n || Nat.beq n k) = true := by
          rw [Bool.or_eq_true, nblt, nbeq]
          simp only [decide_eq_true_eq]
          omega
        have hb1 : Nat.ble k n = true := by rw [nble]; simpa using hk
        have hb2 : Nat.ble n cap = true := by rw [nble]; simpa using h6
        have hzz : Nat.beq z z = true := by rw [nbeq]; simp
        simp [restV, hu, hz, sliceA, hzz, hb1, hb2, this]
      · rw [List.drop_take, List.drop_drop, hsub]

/-! making slices -/
theorem allocL_slice0 {e : En} {T el n : Nat} {z : List AV} (hu : P.underlying T = some (.slice el)) (hz : zeroCells P el = some z) (hs : sizeT P el = some n) (hl : z.length = n) : allocL (.buildSlice T 0 #[]) P e = some (.slc 0 0 n, .cells []) := by
  simp [allocL, hu, hz, hs, hl, nbeq, nble]
theorem allocL_slice1 {e : En} {T el : Nat} {x : Operand} {z c : AV} (hu : P.underlying T = some (.slice el)) (hz : zeroCells P el = some [z]) (hs : sizeT P el = some 1) (hc : cellsOf (opnd x e) = some [c]) : allocL (.buildSlice T 1 #[(0, x)]) P e = some (.slc 1 1 1, .cells [c]) := by
  simp [allocL, hu, hz, hs, nbeq, nble, fillA, parts, hc, overAt_eq]
theorem allocL_make {e : En} {T el n k : Nat} {x : Operand} {z : List AV} {kd : IntKind} (hi : opnd x e = .int kd (n : Int)) (hu : P.underlying T = some (.slice el)) (hz : zeroCells P el = some z) (hs : sizeT P el = some k) (hl : z.length = k) (hb : okBytes P el = true) (hn : n ≤ 1000000) : allocL (.makeSlice T x x) P e = some (.slc n n k, .cells (List.replicate n z).flatten) := by
  cases n with
  | zero =>
    have : idx (.int kd ((0 : Nat) : Int)) = some 0 := idx_nat _ _
    simp only [allocL, hi, this, hu, hz, hs, hb]
    have h1 : Nat.beq z.length k = true := by rw [nbeq]; simpa using hl
    simp [h1]
  | succ n =>
    have : idx (.int kd ((n + 1 : Nat) : Int)) = some (n + 1) := idx_nat _ _
    simp only [allocL, hi, this, hu, hz, hs, hb]
    have h1 : Nat.beq z.length k = true := by rw [nbeq]; simpa using hl
    have h2 : Nat.ble (n + 1) (n + 1) = true := by rw [nble]; simp
    have h3 : Nat.ble (n + 1) 1000000 = true := by rw [nble]; simpa using hn
    simp [h1, h2, h3]
/-- what makeSlice makes -/
noncomputable def mkV (P : Program) (T : TypeId) (l c : AV) : Option (NV × AObj) :=
  allocL (.makeSlice T (.tmp 0) (.tmp 1)) P (.bind 0 l (.bind 1 c .nil))
theorem allocL_mk {e : En} (T : TypeId) (x y : Operand) : allocL (.makeSlice T x y) P e = mkV P T (opnd x e) (opnd y e) := by
  simp [allocL, mkV, En.get_bind]
theorem mkV_of {T el n k : Nat} {z : List AV} {kd : IntKind} (hu : P.underlying T = some (.slice el)) (hz : zeroCells P el = some z) (hs : sizeT P el = some k) (hl : z.length = k) (hb : okBytes P el = true) (hn : n ≤ 1000000) : mkV P T (.int kd (n : Int)) (.int kd (n : Int)) = some (.slc n n k, .cells (List.replicate n z).flatten) := by
  rw [mkV]
  have := allocL_make (P := P) (e := .bind 0 (.int kd (n : Int)) (.bind 1 (.int kd (n : Int)) .nil)) (x := .tmp 0) (n := n) (kd := kd) (by simp [En.get_bind]) hu hz hs hl hb hn
  rw [← this]
  simp [allocL, En.get_bind]
@[simp] theorem opA_buildSlice {e : En} {s : Self} (T n : Nat) (ps : Array (Nat × Operand)) : opA (.buildSlice T n ps) P s e A = newA A (allocL (.buildSlice T n ps) P e) := rfl
@[simp] theorem opA_makeSlice {e : En} {s : Self} (T : Nat) (x y : Operand) : opA (.makeSlice T x y) P s e A = newA A (allocL (.makeSlice T x y) P e) := rfl

/-! what a function has made itself -/
/-- v is a slice that was made from n0 on, and fills its block. -/
def Own (n0 : Nat) (A : AH) (v : AV) (z : Nat) (cells : List AV) : Prop := (v = .nilslice ∧ cells = []) ∨
  ∃ β n ex, v = .slice β 0 n n ex z ∧ A.get β = some (.cells cells) ∧ cells.length = n * z ∧ n0 ≤ β ∧ β < A.next
theorem Own.sl {n0 : Nat} {v : AV} {z : Nat} {cells : List AV} (h : Own n0 A v z cells) (hz : 0 < z) : SlW A v z (cells.length / z) cells := by
  rcases h with ⟨rfl, rfl⟩ | ⟨β, n, ex, rfl, h1, h2, h3, h4⟩
  · exact .inl ⟨.inl rfl, by simp, rfl⟩
  · have : cells.length / z = n := by rw [h2]; exact Nat.mul_div_cancel n hz
    rw [this]
    exact .inr ⟨β, 0, n, ex, cells, rfl, by rw [h1]; rfl, by omega, by simp [← h2], h4, Nat.le_refl _⟩
theorem Own.ext {n0 : Nat} {v : AV} {z : Nat} {cells : List AV} (h : Own n0 A v z cells) (hx : Ext A A') : Own n0 A' v z cells := by
  rcases h with h | ⟨β, n, ex, h1, h2, h3, h4, h5⟩
  · exact .inl h
  · exact .inr ⟨β, n, ex, h1, by rw [hx.2 β h5]; exact h2, h3, h4, Nat.lt_of_lt_of_le h5 hx.1⟩
/-- A slice grows. -/
theorem append_own {v y : AV} {z k : Nat} {cells new : List AV} (h : Own A0.next A v z cells) (hx : Ext A0 A) (hsrc : srcCells A z y = some (k, new)) (hk : new.length = k * z) (hz : 0 < z) (hb : cells.length / z + k ≤ 1000000) :
    ∃ v' A', appendA A z v y = some (v', A') ∧ Own A0.next A' v' z (cells ++ new) ∧ Ext A0 A' ∧ (∀ γ, γ < A.next → γ ≠ pb v → A'.get γ = A.get γ) ∧ A.next ≤ A'.next ∧ (k ≠ 0 → A.next ≤ pb v') := by
  rcases h with ⟨rfl, rfl⟩ | ⟨β, n, ex, rfl, h1, h2, h3, h4⟩
  · cases k with
    | zero =>
      have : new = [] := List.length_eq_zero_iff.1 (by omega)
      subst this
      exact ⟨.nilslice, A, by simp [appendA, hsrc], .inl ⟨rfl, rfl⟩, hx, fun _ _ _ => rfl, Nat.le_refl _, fun h => absurd rfl h⟩
    | succ k =>
      refine ⟨.slice A.next 0 (k + 1) (k + 1) false z, A.push (.cells new), ?_, .inr ⟨A.next, k + 1, false, rfl, by rw [AH.get_push, if_pos rfl]; rfl, by simpa using hk, hx.1, Nat.lt_succ_self _⟩, hx.push _, fun γ hγ _ => by rw [AH.get_push, if_neg (by omega)], Nat.le_succ _, fun _ => Nat.le_refl _⟩
      have : Nat.ble (k + 1) 1000000 = true := by rw [nble]; simpa using hb
      simp [appendA, hsrc, this]
  · have hn : cells.length / z = n := by rw [h2]; exact Nat.mul_div_cancel n hz
    rw [hn] at hb
    cases k with
    | zero =>
      have : new = [] := List.length_eq_zero_iff.1 (by omega)
      subst this
      exact ⟨.slice β 0 n n ex z, A, by simp [appendA, hsrc], .inr ⟨β, n, ex, rfl, by simpa using h1, by simpa using h2, h3, h4⟩, hx, fun _ _ _ => rfl, Nat.le_refl _, fun h => absurd rfl h⟩
    | succ k =>
      have hb' : Nat.ble (n + (k + 1)) 1000000 = true := by rw [nble]; simpa using hb
      have hnc : Nat.ble (n + (k + 1)) n = false := by rw [nble]; simp
      have htk : takeN (n * z) (dropN 0 cells) = some cells := by
        rw [takeN_eq, dropN_eq, ← h2]; simp
      have hne : β ≠ A.next := by omega
      have hlen : (cells ++ new).length = (n + (k + 1)) * z := by
        rw [List.length_append, h2, hk, ← Nat.add_mul]
      cases ex with
      | true =>
        refine ⟨.slice A.next 0 (n + (k + 1)) (n + (k + 1)) false z, A.push (.cells (cells ++ new)), ?_, .inr ⟨A.next, n + (k + 1), false, rfl, by rw [AH.get_push, if_pos rfl], hlen, hx.1, Nat.lt_succ_self _⟩, hx.push _, fun γ hγ _ => by rw [AH.get_push, if_neg (by omega)], Nat.le_succ _, fun _ => Nat.le_refl _⟩
        simp [appendA, hsrc, h1, hb', hnc, htk]
      | false =>
        refine ⟨.slice A.next 0 (n + (k + 1)) (n + (k + 1)) false z, (A.push (.cells (cells ++ new))).put β .dead, ?_, .inr ⟨A.next, n + (k + 1), false, rfl, by rw [AH.get_put, if_neg (fun e => hne e.symm), AH.get_push, if_pos rfl], hlen, hx.1, Nat.lt_succ_self _⟩, (hx.push _).put h3 _, fun γ hγ hne' => by rw [AH.get_put, if_neg (by simpa using hne'), AH.get_push, if_neg (by omega)], Nat.le_succ _, fun _ => Nat.le_refl _⟩
        simp [appendA, hsrc, h1, hb', hnc, htk]
theorem srcCells_sl {v : AV} {z n : Nat} {cells : List AV} (h : SlW A v z n cells) : srcCells A z v = some (n, cells) := by
  rcases h with ⟨rfl | rfl, rfl, rfl⟩ | ⟨β, off, cap, ex, cs, rfl, h2, h3, rfl, _⟩
  · rfl
  · rfl
  · have ht : takeN (n * z) (dropN off cs) = some ((cs.drop off).take (n * z)) := by
      rw [takeN_eq, dropN_eq, if_pos (by simp; omega)]
    cases n with
    | zero => simp [srcCells]
    | succ n => simp [srcCells, h2, ht]
end Go.Ab
namespace Go.Ab
open Go
variable {P : Program} {e : En} {A : AH} {s : Self}
theorem opA_append (x y : Operand) (T T' : TypeId) {es el : Nat} (h1 : elemCells P T = some es) (h2 : P.underlying T' = some (.slice el)) :
    opA (.call ⟨.builtin .append, #[x, y], #[T, T']⟩) P s e A = .of (appendA A es (opnd x e) (opnd y e)) := by
  simp [opA, h1, h2]
end Go.Ab

namespace Go.Ab
open Go
variable {P : Program} {A A' A0 : AH}
/-! lists of ints that were made here -/
def OwnI (A0 A : AH) (v : AV) (l : List Int) : Prop := Own A0.next A v 1 (l.map IV)
theorem OwnI.sl {v : AV} {l : List Int} (h : OwnI A0 A v l) (hb : l.length ≤ Most) : IntSl A v l := by
  refine ⟨?_, hb⟩
  have := Own.sl h (by omega)
  simpa using this
theorem OwnI.fresh {v : AV} {l : List Int} (h : OwnI A0 A v l) (hl : l ≠ []) : A0.next ≤ pb v := by
  rcases h with ⟨rfl, h2⟩ | ⟨β, n, ex, rfl, h1, h2, h3, h4⟩
  · exact absurd (by simpa using h2) hl
  · exact h3
theorem append_int {v : AV} {l : List Int} (x : Int) (h : OwnI A0 A v l) (hx : Ext A0 A) (hb : l.length < 1000000) :
    ∃ v' A', appendA (A.push (.cells [.int .i64 x])) 1 v (.slice A.next 0 1 1 true 1) = some (v', A') ∧ OwnI A0 A' v' (l ++ [x]) ∧ Ext A0 A' := by
  have h' : Own A0.next (A.push (.cells [IV x])) v 1 (l.map IV) := Own.ext h ((Ext.refl A).push _)
  have hs : srcCells (A.push (.cells [IV x])) 1 (.slice A.next 0 1 1 true 1) = some (1, [IV x]) :=
    srcCells_sl (.inr ⟨A.next, 0, 1, true, [IV x], rfl, by rw [AH.get_push, if_pos rfl]; rfl, by simp, by simp, Nat.lt_succ_self _, by omega⟩)
  obtain ⟨v', A', g1, g2, g3, _⟩ := append_own h' (hx.push _) hs (by simp) (by omega) (by simp; omega)
  exact ⟨v', A', g1, by simpa [OwnI] using g2, g3⟩
theorem append_ints {v y : AV} {l r : List Int} (h : OwnI A0 A v l) (hx : Ext A0 A) (hy : SlW A y 1 r.length (r.map IV)) (hb : l.length + r.length ≤ 1000000) :
    ∃ v' A', appendA A 1 v y = some (v', A') ∧ OwnI A0 A' v' (l ++ r) ∧ Ext A0 A' := by
  obtain ⟨v', A', g1, g2, g3, _⟩ := append_own h hx (srcCells_sl hy) (by simp) (by omega) (by simpa using hb)
  exact ⟨v', A', g1, by simpa [OwnI] using g2, g3⟩
end Go.Ab

namespace Go.Ab
open Go
variable {P : Program} [LoopTab]
/-- What a function answers, asked of the end of its body. -/
def Ans (P : Program) (fn : Func) (R : AV → AH → Prop) (x : Ex) (e : En) (A : AH) : Prop := (x = .normal ∨ x = .ret) ∧ ∃ vs, resultsA P e A fn.results.toList = some vs ∧ R (match vs with | [v] => v | vs => .tup vs) A
/-- u is a bool that tells whether p holds. -/
def IsB (u : AV) (p : Prop) : Prop := ∃ t, u = .bool t ∧ (t = true ↔ p)
theorem IsB.no {p : Prop} (h : ¬ p) : IsB (.bool false) p := ⟨false, rfl, by simpa using h⟩
theorem IsB.yes {p : Prop} (h : p) : IsB (.bool true) p := ⟨true, rfl, by simpa using h⟩
theorem FnW.body {f : FuncId} {fn : Func} {c : Code} {n : Nat} {as : List AV} {A : AH} {R : AV → AH → Prop} (h1 : P.funcs[f]? = some fn) (h2 : (fn.name == "runtime.NumGoroutine") = false) (h3 : fn.body = some c) (hn : fn.ntmps = n)
    (h : W P n false c (bindArgs (2 ^ n - 1) 0 as) A (Ans P fn R)) : FnW P f as A R := by subst hn; exact FnW.of h1 h2 h3 h
end Go.Ab
namespace Go.Ab
open Go
variable {P : Program} {A A' : AH}
/-! lists of lists, flows -/
def lx (ls : List (List Int)) (i : Nat) : List Int := ls.getD i []
def vx (vs : List AV) (i : Nat) : AV := vs.getD i .any
structure LL (A : AH) (v : AV) (ls : List (List Int)) (vs : List AV) : Prop where
  sl : SlW A v 1 ls.length vs
  el : ∀ i, i < ls.length → IntSl A (vx vs i) (lx ls i)
  le : ls.length ≤ Most
theorem LL.ext {v : AV} {ls : List (List Int)} {vs : List AV} (h : LL A v ls vs) (hx : Ext A A') : LL A' v ls vs := ⟨h.sl.ext hx, fun i hi => (h.el i hi).ext hx, h.le⟩
theorem LL.len {v : AV} {ls : List (List Int)} {vs : List AV} (h : LL A v ls vs) {T el : TypeId} (hu : P.underlying T = some (.slice el)) : lenV P A' T v = some (.int .i64 (ls.length : Int)) := SlW.len h.sl hu
theorem LL.idx {v : AV} {ls : List (List Int)} {vs : List AV} (h : LL A v ls vs) {T el i : Nat} {k : IntKind} (hu : P.underlying T = some (.slice el)) (hz : sizeT P el = some 1) (hi : i < ls.length) : idxV P T v (.int k (i : Int)) = some (.ptr (pb v) (po v + i)) := by
  have := SlW.idx h.sl hu hz (k := k) hi; rwa [Nat.mul_one] at this
theorem LL.load {v : AV} {ls : List (List Int)} {vs : List AV} (h : LL A v ls vs) {T i m : Nat} (hs : shapeT P T = some (m, false)) (hi : i < ls.length) : loadA P A T (.ptr (pb v) (po v + i)) = some (vx vs i) := by
  have := SlW.cell h.sl (P := P) (o := 0) hs hi (by omega)
  rw [Nat.add_zero, Nat.mul_one] at this
  have hl := h.sl.length
  have hi' : i < vs.length := by omega
  rw [this, Nat.add_zero, vx, List.getD_eq_getElem?_getD, List.getElem?_eq_getElem hi']; rfl
/-- the points of a flow: what follows each -/
structure Fl (A : AH) (v : AV) (nx : List (List Int)) (cs : List AV) : Prop where
  sl : SlW A v 3 nx.length cs
  el : ∀ i, i < nx.length → IntSl A (vx cs (i * 3 + 2)) (lx nx i)
  le : nx.length ≤ Most
theorem Fl.ext {v : AV} {nx : List (List Int)} {cs : List AV} (h : Fl A v nx cs) (hx : Ext A A') : Fl A' v nx cs := ⟨h.sl.ext hx, fun i hi => (h.el i hi).ext hx, h.le⟩
theorem Fl.len {v : AV} {nx : List (List Int)} {cs : List AV} (h : Fl A v nx cs) {T el : TypeId} (hu : P.underlying T = some (.slice el)) : lenV P A' T v = some (.int .i64 (nx.length : Int)) := SlW.len h.sl hu
theorem Fl.idx {v : AV} {nx : List (List Int)} {cs : List AV} (h : Fl A v nx cs) {T el i : Nat} {k : IntKind} (hu : P.underlying T = some (.slice el)) (hz : sizeT P el = some 3) (hi : i < nx.length) : idxV P T v (.int k (i : Int)) = some (.ptr (pb v) (po v + i * 3)) := SlW.idx h.sl hu hz hi
theorem Fl.load {v : AV} {nx : List (List Int)} {cs : List AV} (h : Fl A v nx cs) {T i m : Nat} (hs : shapeT P T = some (m, false)) (hi : i < nx.length) : loadA P A T (.ptr (pb v) (po v + i * 3 + 2)) = some (vx cs (i * 3 + 2)) := by
  have := SlW.cell h.sl (P := P) (o := 2) hs hi (by omega)
  have hl := h.sl.length
  have hi' : i * 3 + 2 < cs.length := by omega
  rw [this, vx, List.getD_eq_getElem?_getD, List.getElem?_eq_getElem hi']; rfl
theorem box_load {T β m : Nat} {p : AV} (h : A.get β = some (.cells [p])) (hs : shapeT P T = some (m, false)) : loadA P A T (.ptr β 0) = some p := by
  rw [loadA_of (by rw [h]; rfl), partA_one hs]; rfl
theorem box_whole {T β : Nat} {p : AV} (h : A.get β = some (.cells [p])) (hs : shapeT P T = some (1, true)) : loadA P A T (.ptr β 0) = some (.agg [p]) := by
  rw [loadA_of (by rw [h]; rfl), partA_agg hs (by simp)]; rfl
theorem get_box (x : AObj) : (A.push x).get A.next = some x := by rw [AH.get_push, if_pos rfl]
theorem Ext.box (A : AH) (x : AObj) : Ext A (A.push x) := (Ext.refl A).push x
/-- where the box is -/
structure Box (A : AH) (β : Nat) (p : AV) : Prop where
  get : A.get β = some (.cells [p])
  lt : β < A.next
theorem Box.new (A : AH) (p : AV) : Box (A.push (.cells [p])) A.next p := ⟨get_box _, Nat.lt_succ_self _⟩
theorem Box.ext {β : Nat} {p : AV} (h : Box A β p) (hx : Ext A A') : Box A' β p := ⟨by rw [hx.2 _ h.lt]; exact h.get, Nat.lt_of_lt_of_le h.lt hx.1⟩
end Go.Ab

namespace Go.Ab
open Go
variable {P : Program} {A A' A0 : AH}
/-- A list grows by a number; all else stays. -/
theorem append_int' {v : AV} {l : List Int} (x : Int) (h : OwnI A0 A v l) (hx : Ext A0 A) (hb : l.length < 1000000) :
    ∃ v' A', appendA (A.push (.cells [.int .i64 x])) 1 v (.slice A.next 0 1 1 true 1) = some (v', A') ∧ OwnI A0 A' v' (l ++ [x]) ∧ Ext A0 A' ∧ (∀ γ, γ < A.next → γ ≠ pb v → A'.get γ = A.get γ) ∧ A.next ≤ A'.next ∧ A.next ≤ pb v' := by
  have h' : Own A0.next (A.push (.cells [IV x])) v 1 (l.map IV) := Own.ext h ((Ext.refl A).push _)
  have hs : srcCells (A.push (.cells [IV x])) 1 (.slice A.next 0 1 1 true 1) = some (1, [IV x]) :=
    srcCells_sl (.inr ⟨A.next, 0, 1, true, [IV x], rfl, by rw [AH.get_push, if_pos rfl]; rfl, by simp, by simp, Nat.lt_succ_self _, by omega⟩)
  obtain ⟨v', A', g1, g2, g3, g4, g5, g6⟩ := append_own h' (hx.push _) hs (by simp) (by omega) (by simp; omega)
  have hn : (A.push (.cells [IV x])).next = A.next + 1 := rfl
  refine ⟨v', A', g1, by simpa [OwnI] using g2, g3, fun γ hγ hne => ?_, by omega, by have := g6 (by omega); omega⟩
  rw [g4 γ (by omega) hne, AH.get_push, if_neg (by omega)]
end Go.Ab
