import Derived.Test.YtmaclibfncchgaaGreatDoorEvD
import Derived.Deep.Matrix
import Derived.SizedLaws
import Derived.Below
import Derived.ProofKit
import Derived.Carry
set_option linter.all false
/-! Sets of numbers below 1024: as one number, and as a sorted list. -/
namespace Go.Ab
open Go
/-- the numbers of a set -/
theorem lst_ex (N : Nat) : ∃ l : List Int, l = ((List.range 1024).filter fun k => N.testBit k).map fun (k : Nat) => (k : Int) := ⟨_, rfl⟩
noncomputable def lst (N : Nat) : List Int := Classical.choose (lst_ex N)
theorem lst_eq (N : Nat) : lst N = ((List.range 1024).filter fun k => N.testBit k).map fun (k : Nat) => (k : Int) := Classical.choose_spec (lst_ex N)
theorem mem_lst {N : Nat} {x : Int} : x ∈ lst N ↔ ∃ k : Nat, k < 1024 ∧ N.testBit k = true ∧ x = (k : Int) := by
  rw [lst_eq]; simp only [List.mem_map, List.mem_filter, List.mem_range]
  constructor
  · rintro ⟨k, ⟨h1, h2⟩, rfl⟩; exact ⟨k, h1, h2, rfl⟩
  · rintro ⟨k, h1, h2, rfl⟩; exact ⟨k, ⟨h1, h2⟩, rfl⟩
theorem mem_lst_nat {N k : Nat} : (k : Int) ∈ lst N ↔ k < 1024 ∧ N.testBit k = true := by
  rw [mem_lst]
  constructor
  · rintro ⟨j, h1, h2, h3⟩
    have : k = j := by omega
    subst this; exact ⟨h1, h2⟩
  · rintro ⟨h1, h2⟩; exact ⟨k, h1, h2, rfl⟩
theorem lst_sorted (N : Nat) : (lst N).Pairwise (· < ·) := by
  rw [lst_eq]
  refine List.Pairwise.map _ (R := fun (a b : Nat) => a < b) (fun a b h => by omega) ?_
  exact List.Pairwise.filter _ List.pairwise_lt_range
theorem lst_length (N : Nat) : (lst N).length ≤ 1024 := by
  rw [lst_eq, List.length_map]
  exact Nat.le_trans (List.length_filter_le _ _) (by simp)
/-- Sorted lists of the same elements are the same. -/
theorem sorted_ext : ∀ {l m : List Int}, l.Pairwise (· < ·) → m.Pairwise (· < ·) → (∀ x, x ∈ l ↔ x ∈ m) → l = m := by
  intro l
  induction l with
  | nil =>
    intro m _ _ h
    cases m with
    | nil => rfl
    | cons b m => exact absurd ((h b).2 (by simp)) (by simp)
  | cons a l ih =>
    intro m hl hm h
    cases m with
    | nil => exact absurd ((h a).1 (by simp)) (by simp)
    | cons b m =>
      rw [List.pairwise_cons] at hl hm
      have hab : a = b := by
        rcases List.mem_cons.1 ((h a).1 (by simp)) with h1 | h1
        · exact h1
        · rcases List.mem_cons.1 ((h b).2 (by simp)) with h2 | h2
          · exact h2.symm
          · have := hl.1 b h2; have := hm.1 a h1; omega
      subst hab
      congr 1
      refine ih hl.2 hm.2 fun x => ?_
      constructor
      · intro hx
        rcases List.mem_cons.1 ((h x).1 (List.mem_cons_of_mem _ hx)) with rfl | h2
        · exact absurd (hl.1 _ hx) (by omega)
        · exact h2
      · intro hx
        rcases List.mem_cons.1 ((h x).2 (List.mem_cons_of_mem _ hx)) with rfl | h2
        · exact absurd (hm.1 _ hx) (by omega)
        · exact h2
/-- a sorted list of numbers below 1024 -/
def IsS (l : List Int) : Prop := l.Pairwise (· < ·) ∧ ∀ x ∈ l, 0 ≤ x ∧ x < 1024
theorem IsS.lst (N : Nat) : IsS (lst N) := ⟨lst_sorted N, fun x hx => by obtain ⟨k, h1, _, rfl⟩ := mem_lst.1 hx; omega⟩
def bitsOf (l : List Int) : Nat := l.foldl (fun N x => N ||| 2 ^ x.toNat) 0
theorem testBit_foldl (l : List Int) : ∀ (N k : Nat), (l.foldl (fun N x => N ||| 2 ^ x.toNat) N).testBit k = (N.testBit k || l.any fun x => x.toNat == k) := by
  induction l with
  | nil => intro N k; simp
  | cons a l ih =>
    intro N k
    rw [List.foldl_cons, ih, Nat.testBit_or, Nat.testBit_two_pow, List.any_cons, Bool.or_assoc]
    congr 1
theorem testBit_bitsOf (l : List Int) (k : Nat) : (bitsOf l).testBit k = l.any fun x => x.toNat == k := by
  rw [bitsOf, testBit_foldl]; simp
theorem lt_of_testBit {N n : Nat} (h : ∀ k, n ≤ k → N.testBit k = false) : N < 2 ^ n := Nat.lt_pow_two_of_testBit N h
theorem bitsOf_lt {l : List Int} (h : IsS l) : bitsOf l < 2 ^ 1024 := by
  refine lt_of_testBit (n := 1024) fun k hk => ?_
  rw [testBit_bitsOf, List.any_eq_false]
  intro x hx
  have := h.2 x hx
  simp; omega
theorem lst_bitsOf {l : List Int} (h : IsS l) : Ab.lst (bitsOf l) = l := by
  refine sorted_ext (lst_sorted _) h.1 fun x => ?_
  rw [mem_lst]
  constructor
  · rintro ⟨k, h1, h2, rfl⟩
    rw [testBit_bitsOf, List.any_eq_true] at h2
    obtain ⟨y, hy, h3⟩ := h2
    have := h.2 y hy
    have h4 : y.toNat = k := by simpa using h3
    have : y = (k : Int) := by omega
    rw [← this]; exact hy
  · intro hx
    have := h.2 x hx
    refine ⟨x.toNat, by omega, ?_, by omega⟩
    rw [testBit_bitsOf, List.any_eq_true]
    exact ⟨x, hx, by simp⟩
theorem testBit_bigN {N k n : Nat} (h : N < 2 ^ n) (hk : n ≤ k) : N.testBit k = false :=
  Nat.testBit_lt_two_pow (Nat.lt_of_lt_of_le h (Nat.pow_le_pow_right (by omega) hk))
theorem testBit_big {N k : Nat} (h : N < 2 ^ 1024) (hk : 1024 ≤ k) : N.testBit k = false := testBit_bigN (n := 1024) h hk
theorem lst_inj {N M : Nat} (hN : N < 2 ^ 1024) (hM : M < 2 ^ 1024) (h : lst N = lst M) : N = M := by
  refine Nat.eq_of_testBit_eq fun k => ?_
  by_cases hk : k < 1024
  · have h1 := mem_lst_nat (N := N) (k := k)
    have h2 := mem_lst_nat (N := M) (k := k)
    rw [h, h2] at h1
    simp only [hk, true_and] at h1
    rw [Bool.eq_iff_iff]
    exact h1.symm
  · rw [testBit_big hN (by omega), testBit_big hM (by omega)]
/-- N lies in M -/
def Sub (N M : Nat) : Prop := ∀ k, N.testBit k = true → M.testBit k = true
theorem Sub.refl (N : Nat) : Sub N N := fun _ h => h
theorem Sub.trans {a b c : Nat} (h : Sub a b) (k : Sub b c) : Sub a c := fun i hi => k i (h i hi)
theorem Sub.antisymm {a b : Nat} (h : Sub a b) (k : Sub b a) : a = b := Nat.eq_of_testBit_eq fun i => by rw [Bool.eq_iff_iff]; exact ⟨h i, k i⟩
theorem Sub.or_left (a b : Nat) : Sub a (a ||| b) := fun i h => by rw [Nat.testBit_or, h]; rfl
theorem Sub.or_right (a b : Nat) : Sub b (a ||| b) := fun i h => by rw [Nat.testBit_or, h]; simp
theorem Sub.or {a b c : Nat} (h : Sub a c) (k : Sub b c) : Sub (a ||| b) c := fun i hi => by
  rw [Nat.testBit_or, Bool.or_eq_true] at hi
  rcases hi with hi | hi
  · exact h i hi
  · exact k i hi
/-- how many numbers -/
theorem length_lt {N M : Nat} (h : Sub N M) (hN : N < 2 ^ 1024) (hM : M < 2 ^ 1024) (hne : N ≠ M) : (lst N).length < (lst M).length := by
  rw [lst_eq, lst_eq, List.length_map, List.length_map]
  have hex : ∃ k, k < 1024 ∧ M.testBit k = true ∧ N.testBit k = false := by
    refine Classical.byContradiction fun hno => hne (h.antisymm fun k hk => ?_)
    cases hq : N.testBit k with
    | true => rfl
    | false =>
      have hlt : k < 1024 := by
        refine Classical.byContradiction fun hn => ?_
        rw [testBit_big hM (by omega)] at hk; cases hk
      exact absurd ⟨k, hlt, hk, hq⟩ hno
  obtain ⟨k, h1, h2, h3⟩ := hex
  have gen : ∀ l : List Nat, (l.filter fun i => N.testBit i).length ≤ (l.filter fun i => M.testBit i).length ∧ (k ∈ l → (l.filter fun i => N.testBit i).length < (l.filter fun i => M.testBit i).length) := by
    intro l
    induction l with
    | nil => simp
    | cons a l ih =>
      simp only [List.filter_cons, List.mem_cons]
      cases hq : N.testBit a with
      | true =>
        rw [h a hq]
        simp only [if_true, List.length_cons]
        refine ⟨by omega, fun hm => ?_⟩
        rcases hm with rfl | hm
        · rw [h3] at hq; cases hq
        · have := ih.2 hm; omega
      | false =>
        cases hq2 : M.testBit a with
        | true =>
          simp only [Bool.false_eq_true, if_false, if_true, List.length_cons]
          exact ⟨by omega, fun _ => by omega⟩
        | false =>
          simp only [Bool.false_eq_true, if_false]
          refine ⟨ih.1, fun hm => ?_⟩
          rcases hm with rfl | hm
          · rw [h2] at hq2; cases hq2
          · exact ih.2 hm
  exact (gen _).2 (by simpa using h1)
theorem length_eq {N M : Nat} (h : Sub N M) (hN : N < 2 ^ 1024) (hM : M < 2 ^ 1024) : (lst N).length = (lst M).length ↔ N = M :=
  ⟨fun hl => Classical.byContradiction fun hne => by have := length_lt h hN hM hne; omega, fun h => by rw [h]⟩
theorem or_lt {a b : Nat} (h : a < 2 ^ 1024) (k : b < 2 ^ 1024) : a ||| b < 2 ^ 1024 := @Nat.or_lt_two_pow a b 1024 h k
theorem pow_lt {n : Nat} (h : n < 1024) : 2 ^ n < 2 ^ 1024 := @Nat.pow_lt_pow_right 2 n 1024 (by omega) h
/-- n put into a sorted list -/
def Ins (l : List Int) (n : Int) (r : List Int) : Prop := (n ∈ l ∧ r = l) ∨ (n ∉ l ∧ ∃ i, i ≤ l.length ∧ (∀ x ∈ l.take i, x < n) ∧ (i < l.length → n ≤ ix l i) ∧ r = l.take i ++ n :: l.drop i)
theorem ins_lst {N n : Nat} {r : List Int} (hn : n < 1024) (h : Ins (lst N) n r) : r = lst (N ||| 2 ^ n) := by
  have hmem : ∀ x, x ∈ Ab.lst (N ||| 2 ^ n) ↔ x ∈ Ab.lst N ∨ x = (n : Int) := by
    intro x
    rw [mem_lst, mem_lst]
    constructor
    · rintro ⟨k, h1, h2, rfl⟩
      rw [Nat.testBit_or, Bool.or_eq_true, Nat.testBit_two_pow] at h2
      rcases h2 with h2 | h2
      · exact .inl ⟨k, h1, h2, rfl⟩
      · right; have : n = k := by simpa using h2
        omega
    · rintro (⟨k, h1, h2, rfl⟩ | rfl)
      · exact ⟨k, h1, by rw [Nat.testBit_or, h2]; rfl, rfl⟩
      · exact ⟨n, hn, by rw [Nat.testBit_or, Nat.testBit_two_pow]; simp, rfl⟩
  unfold Ins at h
  rcases h with ⟨h1, he⟩ | ⟨h1, i, h2, h3, h4, he⟩ <;> subst he
  · refine sorted_ext (lst_sorted _) (lst_sorted _) fun x => ?_
    rw [hmem]
    exact ⟨.inl, fun h => h.elim id fun h => h ▸ h1⟩
  · refine sorted_ext ?_ (lst_sorted _) fun x => ?_
    · have hs := lst_sorted N
      rw [← List.take_append_drop i (Ab.lst N), List.pairwise_append] at hs
      rw [List.pairwise_append, List.pairwise_cons]
      have hgt : ∀ x ∈ (Ab.lst N).drop i, (n : Int) < x := by
        intro x hx
        have hxm := List.mem_of_mem_drop hx
        have hne : x ≠ (n : Int) := fun e => h1 (e ▸ hxm)
        cases hd : (Ab.lst N).drop i with
        | nil => rw [hd] at hx; cases hx
        | cons a l =>
          have hlt : i < (Ab.lst N).length := by
            refine Classical.byContradiction fun hq => ?_
            rw [List.drop_eq_nil_of_le (by omega)] at hd; cases hd
          have ha : a = ix (Ab.lst N) i := by
            rw [List.drop_eq_getElem_cons hlt] at hd
            rw [ix_eq hlt]; exact (List.cons.inj hd).1.symm
          have := h4 hlt
          rw [hd] at hx
          have hs2 := hs.2.1
          rw [hd, List.pairwise_cons] at hs2
          rcases List.mem_cons.1 hx with rfl | hx
          · omega
          · have := hs2.1 x hx; omega
      refine ⟨hs.1, ⟨hgt, hs.2.1⟩, fun a ha b hb => ?_⟩
      rcases List.mem_cons.1 hb with rfl | hb
      · exact h3 a ha
      · have := h3 a ha; have := hgt b hb; omega
    · rw [hmem, List.mem_append, List.mem_cons]
      have := List.mem_append (a := x) (s := (Ab.lst N).take i) (t := (Ab.lst N).drop i)
      rw [List.take_append_drop] at this
      rw [this]
      constructor
      · rintro (h | h | h)
        · exact .inl (.inl h)
        · exact .inr h
        · exact .inl (.inr h)
      · rintro ((h | h) | h)
        · exact .inl h
        · exact .inr (.inr h)
        · exact .inr (.inl h)
end Go.Ab

/-! Least solutions of the equations of a flow, and how a round of changes comes to one. -/
namespace Go.Ab
open Go
/-- a set, passed: without one set, with another one -/
def thr (S G K : Nat) : Nat := G ||| (S ^^^ (S &&& K))
theorem testBit_thr (S G K i : Nat) : (thr S G K).testBit i = (G.testBit i || (S.testBit i && !K.testBit i)) := by
  rw [thr, Nat.testBit_or, Nat.testBit_xor, Nat.testBit_and]
  cases S.testBit i <;> cases K.testBit i <;> rfl
theorem thr_lt {S G K : Nat} (h : S < 2 ^ 1024) (hG : G < 2 ^ 1024) : thr S G K < 2 ^ 1024 := by
  refine lt_of_testBit (n := 1024) fun i hi => ?_
  rw [testBit_thr, testBit_big h hi, testBit_big hG hi]; rfl
theorem thr_mono {S S' G K : Nat} (h : Sub S S') : Sub (thr S G K) (thr S' G K) := fun i hi => by
  rw [testBit_thr, Bool.or_eq_true, Bool.and_eq_true] at hi ⊢
  rcases hi with hi | ⟨h1, h2⟩
  · exact .inl hi
  · exact .inr ⟨h i h1, h2⟩
def updF (f : Nat → Nat) (a v : Nat) : Nat → Nat := fun i => if i = a then v else f i
theorem updF_same (f : Nat → Nat) (a v : Nat) : updF f a v a = v := if_pos rfl
theorem updF_other {f : Nat → Nat} {a v i : Nat} (h : i ≠ a) : updF f a v i = f i := if_neg h

variable {n : Nat} {E : Nat → Nat → Prop} {G K X Y X0 Y0 : Nat → Nat}
def Sol (n : Nat) (E : Nat → Nat → Prop) (G K X Y : Nat → Nat) : Prop := (∀ a, a < n → Y a = thr (X a) (G a) (K a)) ∧ ∀ s d, s < n → d < n → E s d → Sub (Y s) (X d)
def Low (n : Nat) (E : Nat → Nat → Prop) (G K X Y : Nat → Nat) : Prop := ∀ X' Y', Sol n E G K X' Y' → ∀ a, a < n → Sub (X a) (X' a) ∧ Sub (Y a) (Y' a)
def Least (n : Nat) (E : Nat → Nat → Prop) (G K X Y : Nat → Nat) : Prop := Sol n E G K X Y ∧ Low n E G K X Y
theorem Least.unique {X' Y' : Nat → Nat} (h : Least n E G K X Y) (k : Least n E G K X' Y') : ∀ a, a < n → X a = X' a ∧ Y a = Y' a := fun a ha =>
  ⟨((h.2 _ _ k.1 a ha).1).antisymm ((k.2 _ _ h.1 a ha).1), ((h.2 _ _ k.1 a ha).2).antisymm ((k.2 _ _ h.1 a ha).2)⟩
theorem Low.pass (h : Low n E G K X Y) {a : Nat} (ha : a < n) : Low n E G K X (updF Y a (thr (X a) (G a) (K a))) := fun X' Y' hs i hi => by
  refine ⟨(h X' Y' hs i hi).1, ?_⟩
  by_cases hia : i = a
  · subst hia
    rw [updF_same, hs.1 i hi]
    exact thr_mono (h X' Y' hs i hi).1
  · rw [updF_other hia]; exact (h X' Y' hs i hi).2
theorem Low.join (h : Low n E G K X Y) {s d : Nat} (hs : s < n) (hd : d < n) (he : E s d) : Low n E G K (updF X d (X d ||| Y s)) Y := fun X' Y' hS i hi => by
  refine ⟨?_, (h X' Y' hS i hi).2⟩
  by_cases hid : i = d
  · subst hid
    rw [updF_same]
    exact (h X' Y' hS i hi).1.or ((h X' Y' hS s hs).2.trans (hS.2 s i hs hi he))
  · rw [updF_other hid]; exact (h X' Y' hS i hi).1
/-- what always holds -/
structure GoodF (n : Nat) (E : Nat → Nat → Prop) (G K X Y : Nat → Nat) : Prop where
  low : Low n E G K X Y
  below : ∀ a, a < n → Sub (Y a) (thr (X a) (G a) (K a))
  xlt : ∀ a, a < n → X a < 2 ^ 1024
  ylt : ∀ a, a < n → Y a < 2 ^ 1024
theorem GoodF.zero (n : Nat) (E : Nat → Nat → Prop) (G K : Nat → Nat) : GoodF n E G K (fun _ => 0) (fun _ => 0) :=
  ⟨fun _ _ _ _ _ => ⟨fun k h => by simp at h, fun k h => by simp at h⟩, fun _ _ k h => by simp at h, fun _ _ => Nat.two_pow_pos 1024, fun _ _ => Nat.two_pow_pos 1024⟩
theorem GoodF.pass (h : GoodF n E G K X Y) (hG : ∀ a, a < n → G a < 2 ^ 1024) {a : Nat} (ha : a < n) : GoodF n E G K X (updF Y a (thr (X a) (G a) (K a))) := by
  refine ⟨h.low.pass ha, fun i hi => ?_, h.xlt, fun i hi => ?_⟩
  · by_cases hia : i = a
    · subst hia; rw [updF_same]; exact Sub.refl _
    · rw [updF_other hia]; exact h.below i hi
  · by_cases hia : i = a
    · subst hia; rw [updF_same]; exact thr_lt (h.xlt i hi) (hG i hi)
    · rw [updF_other hia]; exact h.ylt i hi
theorem GoodF.join (h : GoodF n E G K X Y) {s d : Nat} (hs : s < n) (hd : d < n) (he : E s d) : GoodF n E G K (updF X d (X d ||| Y s)) Y := by
  refine ⟨h.low.join hs hd he, fun i hi => ?_, fun i hi => ?_, h.ylt⟩
  · by_cases hid : i = d
    · subst hid; rw [updF_same]; exact (h.below i hi).trans (thr_mono (Sub.or_left _ _))
    · rw [updF_other hid]; exact h.below i hi
  · by_cases hid : i = d
    · subst hid; rw [updF_same]; exact or_lt (h.xlt i hi) (h.ylt s hs)
    · rw [updF_other hid]; exact h.xlt i hi

/-! how many numbers there are -/
noncomputable def total (n : Nat) (f : Nat → Nat) : Nat := ((List.range n).map fun a => (lst (f a)).length).sum
theorem total_le (n : Nat) (f : Nat → Nat) : total n f ≤ n * 1024 := by
  unfold total
  induction n with
  | zero => simp
  | succ n ih =>
    rw [List.range_succ, List.map_append, List.sum_append, Nat.add_mul]
    have := lst_length (f n)
    simp at ih ⊢
    omega
theorem total_mono {f g : Nat → Nat} (h : ∀ a, a < n → Sub (f a) (g a)) (hf : ∀ a, a < n → f a < 2 ^ 1024) (hg : ∀ a, a < n → g a < 2 ^ 1024) : total n f ≤ total n g ∧ ((∃ a, a < n ∧ g a ≠ f a) → total n f < total n g) := by
  unfold total
  induction n with
  | zero => simp
  | succ n ih =>
    have ih := ih (fun a ha => h a (by omega)) (fun a ha => hf a (by omega)) (fun a ha => hg a (by omega))
    rw [List.range_succ, List.map_append, List.map_append, List.sum_append, List.sum_append]
    have hle : (lst (f n)).length ≤ (lst (g n)).length := by
      by_cases hq : f n = g n
      · rw [hq]; exact Nat.le_refl _
      · exact Nat.le_of_lt (length_lt (h n (by omega)) (hf n (by omega)) (hg n (by omega)) hq)
    refine ⟨by simpa using Nat.add_le_add ih.1 hle, ?_⟩
    rintro ⟨a, ha, hne⟩
    by_cases han : a = n
    · subst han
      have := length_lt (h a (by omega)) (hf a (by omega)) (hg a (by omega)) (fun e => hne e.symm)
      have h1 := ih.1
      simp
      omega
    · have := ih.2 ⟨a, by omega, hne⟩
      simp
      omega

/-! a round of the reference: all changes are told -/
structure Rnd (n : Nat) (E : Nat → Nat → Prop) (G K X0 Y0 X Y : Nat → Nat) (more : Bool) : Prop where
  good : GoodF n E G K X Y
  mx : ∀ a, a < n → Sub (X0 a) (X a)
  my : ∀ a, a < n → Sub (Y0 a) (Y a)
  no : more = false → ∀ a, a < n → X a = X0 a ∧ Y a = Y0 a
  yes : more = true → ∃ a, a < n ∧ (X a ≠ X0 a ∨ Y a ≠ Y0 a)
theorem Rnd.start (h : GoodF n E G K X Y) : Rnd n E G K X Y X Y false := ⟨h, fun _ _ => Sub.refl _, fun _ _ => Sub.refl _, fun _ _ _ => ⟨rfl, rfl⟩, fun h => by cases h⟩
theorem Rnd.pass {more : Bool} (h : Rnd n E G K X0 Y0 X Y more) (hG : ∀ a, a < n → G a < 2 ^ 1024) {a : Nat} (ha : a < n) :
    Rnd n E G K X0 Y0 X (updF Y a (thr (X a) (G a) (K a))) (more || decide (¬ ((lst (thr (X a) (G a) (K a))).length : Int) = (lst (Y a)).length)) ∧ (more = false ∧ ((lst (thr (X a) (G a) (K a))).length : Int) = (lst (Y a)).length → Y0 a = thr (X0 a) (G a) (K a)) := by
  have hle := length_eq (h.good.below a ha) (h.good.ylt a ha) (thr_lt (h.good.xlt a ha) (hG a ha))
  have hsub : ∀ i, i < n → Sub (Y i) (updF Y a (thr (X a) (G a) (K a)) i) := fun i hi => by
    by_cases hia : i = a
    · subst hia; rw [updF_same]; exact h.good.below i hi
    · rw [updF_other hia]; exact Sub.refl _
  refine ⟨⟨h.good.pass hG ha, h.mx, fun i hi => (h.my i hi).trans (hsub i hi), fun hm i hi => ?_, fun hm => ?_⟩, fun ⟨hm, heq⟩ => ?_⟩
  · rw [Bool.or_eq_false_iff, decide_eq_false_iff_not] at hm
    have hy := hle.1 (by omega)
    refine ⟨(h.no hm.1 i hi).1, ?_⟩
    by_cases hia : i = a
    · subst hia; rw [updF_same, ← hy]; exact (h.no hm.1 i hi).2
    · rw [updF_other hia]; exact (h.no hm.1 i hi).2
  · cases hmm : more with
    | true =>
      obtain ⟨i, hi, hne⟩ := h.yes hmm
      refine ⟨i, hi, hne.imp id fun hne he => hne ?_⟩
      exact (Sub.antisymm (h.my i hi) (by rw [← he]; exact hsub i hi)).symm
    | false =>
      rw [hmm, Bool.false_or, decide_eq_true_eq] at hm
      refine ⟨a, ha, .inr ?_⟩
      rw [updF_same, ← (h.no hmm a ha).2]
      exact fun he => hm (by rw [he])
  · have hy := hle.1 (by omega)
    rw [← (h.no hm a ha).2, ← (h.no hm a ha).1]
    exact hy
theorem Rnd.join {more : Bool} (h : Rnd n E G K X0 Y0 X Y more) {s d : Nat} (hs : s < n) (hd : d < n) (he : E s d) :
    Rnd n E G K X0 Y0 (updF X d (X d ||| Y s)) Y (more || decide (¬ ((lst (X d ||| Y s)).length : Int) = (lst (X d)).length)) ∧ (more = false ∧ ((lst (X d ||| Y s)).length : Int) = (lst (X d)).length → Sub (Y0 s) (X0 d)) := by
  have hle := length_eq (Sub.or_left (X d) (Y s)) (h.good.xlt d hd) (or_lt (h.good.xlt d hd) (h.good.ylt s hs))
  have hsub : ∀ i, i < n → Sub (X i) (updF X d (X d ||| Y s) i) := fun i hi => by
    by_cases hia : i = d
    · subst hia; rw [updF_same]; exact Sub.or_left _ _
    · rw [updF_other hia]; exact Sub.refl _
  refine ⟨⟨h.good.join hs hd he, fun i hi => (h.mx i hi).trans (hsub i hi), h.my, fun hm i hi => ?_, fun hm => ?_⟩, fun ⟨hm, heq⟩ => ?_⟩
  · rw [Bool.or_eq_false_iff, decide_eq_false_iff_not] at hm
    have hy := hle.1 (by omega)
    refine ⟨?_, (h.no hm.1 i hi).2⟩
    by_cases hia : i = d
    · subst hia; rw [updF_same, ← hy]; exact (h.no hm.1 i hi).1
    · rw [updF_other hia]; exact (h.no hm.1 i hi).1
  · cases hmm : more with
    | true =>
      obtain ⟨i, hi, hne⟩ := h.yes hmm
      refine ⟨i, hi, hne.imp (fun hne he => hne ?_) id⟩
      exact (Sub.antisymm (h.mx i hi) (by rw [← he]; exact hsub i hi)).symm
    | false =>
      rw [hmm, Bool.false_or, decide_eq_true_eq] at hm
      refine ⟨d, hd, .inl ?_⟩
      rw [updF_same, ← (h.no hmm d hd).1]
      exact fun he => hm (by rw [he])
  · have hy := hle.1 (by omega)
    rw [← (h.no hm s hs).2, ← (h.no hm d hd).1, hy]
    exact Sub.or_right _ _
/-- what is left to do -/
noncomputable def left (n : Nat) (X Y : Nat → Nat) (more : Bool) : Nat := if more then 1 + (n * 1024 + n * 1024 - (total n X + total n Y)) else 0
theorem Rnd.left {more : Bool} (h : Rnd n E G K X0 Y0 X Y more) (h0 : GoodF n E G K X0 Y0) : left n X Y more < left n X0 Y0 true := by
  have hx := total_mono h.mx h0.xlt h.good.xlt
  have hy := total_mono h.my h0.ylt h.good.ylt
  have b1 := total_le n X
  have b2 := total_le n Y
  unfold Ab.left
  cases more with
  | false => simp; omega
  | true =>
    obtain ⟨a, ha, hne⟩ := h.yes rfl
    simp only [if_true]
    rcases hne with hne | hne
    · have := hx.2 ⟨a, ha, hne⟩; omega
    · have := hy.2 ⟨a, ha, hne⟩; omega
theorem Rnd.done (h : Rnd n E G K X0 Y0 X Y false) (h1 : ∀ a, a < n → Y0 a = thr (X0 a) (G a) (K a)) (h2 : ∀ s d, s < n → d < n → E s d → Sub (Y0 s) (X0 d)) : Least n E G K X Y := by
  refine ⟨⟨fun a ha => ?_, fun s d hs hd he => ?_⟩, h.good.low⟩
  · rw [(h.no rfl a ha).1, (h.no rfl a ha).2]; exact h1 a ha
  · rw [(h.no rfl s hs).2, (h.no rfl d hd).1]; exact h2 s d hs hd he
end Go.Ab

namespace Go.Ab
open Go
variable {P : Program} {A A' : AH}
/-- v is a slice that holds the set N. -/
def SetV (A : AH) (v : AV) (N : Nat) : Prop := IntSl A v (lst N) ∧ N < 2 ^ 1024
theorem SetV.ext {A A' : AH} {v : AV} {N : Nat} (h : SetV A v N) (hx : Ext A A') : SetV A' v N := ⟨h.1.ext hx, h.2⟩
theorem SlW.place {v : AV} {z n : Nat} {cells : List AV} (h : SlW A v z n cells) : pb v < A.next ∨ pb v = 0 := by
  rcases h with ⟨rfl | rfl, _, _⟩ | ⟨β, off, cap, ex, cs, rfl, _, _, _, h5, _⟩
  · exact .inr rfl
  · exact .inr rfl
  · exact .inl h5
theorem SetV.place {v : AV} {N : Nat} (h : SetV A v N) : pb v < A.next ∨ pb v = 0 := h.1.1.place
theorem SetV.cells {v : AV} {N : Nat} (h : SetV A v N) : cellsOf v = some [v] := by
  rcases h.1.1 with ⟨rfl | rfl, _, _⟩ | ⟨β, off, cap, ex, cs, rfl, _⟩ <;> rfl
theorem SetV.put {v : AV} {N γ : Nat} (h : SetV A v N) (hne : pb v ≠ γ) (x : AObj) : SetV (A.put γ x) v N := by
  refine ⟨⟨?_, h.1.2⟩, h.2⟩
  rcases h.1.1 with h | ⟨β, off, cap, ex, cs, rfl, h2, h3, h4, h5, h6⟩
  · exact .inl h
  · refine .inr ⟨β, off, cap, ex, cs, rfl, ?_, h3, h4, h5, h6⟩
    rw [AH.get_put, if_neg (by simpa using hne)]; exact h2
/-- An array of sets, that was made here. -/
structure ArrV (A : AH) (β n : Nat) (cs : List AV) (f : Nat → Nat) (bi bo : Nat) : Prop where
  get : A.get β = some (.cells cs)
  len : cs.length = n
  lt : β < A.next
  el : ∀ a, a < n → SetV A (vx cs a) (f a)
  ni : ∀ a, a < n → pb (vx cs a) ≠ bi
  no : ∀ a, a < n → pb (vx cs a) ≠ bo
variable {β n bi bo a : Nat} {cs : List AV} {f : Nat → Nat}
theorem ArrV.idx (h : ArrV A β n cs f bi bo) {T el : TypeId} {k : IntKind} (hu : P.underlying T = some (.slice el)) (hz : sizeT P el = some 1) (ha : a < n) : idxV P T (.slice β 0 n n true 1) (.int k (a : Int)) = some (.ptr β a) := by
  have := idxV_slice hu hz (β := β) (o := 0) (c := n) (ex := true) (k := k) ha
  rw [this]; simp
theorem vx_get {cs : List AV} {a : Nat} (h : a < cs.length) : cs[a]? = some (vx cs a) := by
  rw [vx, List.getD_eq_getElem?_getD, List.getElem?_eq_getElem h]; rfl
theorem ArrV.load (h : ArrV A β n cs f bi bo) {T m : Nat} (hs : shapeT P T = some (m, false)) (ha : a < n) : loadA P A T (.ptr β a) = some (vx cs a) := by
  rw [loadA_of (by rw [h.get]; rfl), partA_one hs, vx_get (by rw [h.len]; exact ha)]
theorem ArrV.store (h : ArrV A β n cs f bi bo) {T : Nat} {u : AV} (hz : sizeT P T = some 1) (hc : cellsOf u = some [u]) (ha : a < n) : storeA P A T (.ptr β a) u = some (A.put β (.cells (cs.set a u))) := by
  have hl := h.len
  rw [storeA_of h.get hc hz rfl (by omega), List.set_eq_take_append_cons_drop, if_pos (by omega)]
  simp
theorem vx_set {cs : List AV} {a i : Nat} {u : AV} (ha : a < cs.length) : vx (cs.set a u) i = if i = a then u else vx cs i := by
  rw [vx, List.getD_eq_getElem?_getD, List.getElem?_set]
  by_cases h : a = i
  · subst h; simp [ha]
  · rw [if_neg h, if_neg (fun e => h e.symm), vx, List.getD_eq_getElem?_getD]
theorem ArrV.ext (h : ArrV A β n cs f bi bo) (hx : Ext A A') : ArrV A' β n cs f bi bo :=
  ⟨by rw [hx.2 β h.lt]; exact h.get, h.len, Nat.lt_of_lt_of_le h.lt hx.1, fun a ha => (h.el a ha).ext hx, h.ni, h.no⟩
theorem ArrV.put (h : ArrV A β n cs f bi bo) {u : AV} {N : Nat} (hu : SetV A u N) (h1 : pb u ≠ bi) (h2 : pb u ≠ bo) (hβ : β = bi ∨ β = bo) (ha : a < n) : ArrV (A.put β (.cells (cs.set a u))) β n (cs.set a u) (updF f a N) bi bo := by
  have hl := h.len
  have hv : ∀ i, vx (cs.set a u) i = if i = a then u else vx cs i := fun i => vx_set (by omega)
  refine ⟨by rw [AH.get_put, if_pos rfl], by simpa using hl, h.lt, fun i hi => ?_, fun i hi => ?_, fun i hi => ?_⟩
  · rw [hv]
    by_cases hia : i = a
    · subst hia
      rw [if_pos rfl, updF_same]
      exact hu.put (by rcases hβ with rfl | rfl <;> assumption) _
    · rw [if_neg hia, updF_other hia]
      exact (h.el i hi).put (by rcases hβ with rfl | rfl; exact h.ni i hi; exact h.no i hi) _
  · rw [hv]; by_cases hia : i = a
    · rw [if_pos hia]; exact h1
    · rw [if_neg hia]; exact h.ni i hi
  · rw [hv]; by_cases hia : i = a
    · rw [if_pos hia]; exact h2
    · rw [if_neg hia]; exact h.no i hi
theorem ArrV.other (h : ArrV A β n cs f bi bo) {γ : Nat} (hne : β ≠ γ) (hγ : γ = bi ∨ γ = bo) (x : AObj) : ArrV (A.put γ x) β n cs f bi bo :=
  ⟨by rw [AH.get_put, if_neg hne]; exact h.get, h.len, h.lt, fun a ha => (h.el a ha).put (by rcases hγ with rfl | rfl; exact h.ni a ha; exact h.no a ha) x, h.ni, h.no⟩
theorem SetV.nil (A : AH) : SetV A .nilslice 0 := by
  have : lst 0 = [] := by rw [lst_eq]; simp
  exact ⟨⟨by rw [this]; exact .inl ⟨.inl rfl, rfl, rfl⟩, by rw [this]; simp⟩, Nat.two_pow_pos 1024⟩
theorem ArrV.zero (hg : A.get β = some (.cells (List.replicate n [AV.nilslice]).flatten)) (hlt : β < A.next) (h1 : 0 < bi) (h2 : 0 < bo) : ArrV A β n (List.replicate n [AV.nilslice]).flatten (fun _ => 0) bi bo := by
  have hl : (List.replicate n [AV.nilslice]).flatten = List.replicate n AV.nilslice := by simp
  have hv : ∀ a, a < n → vx (List.replicate n AV.nilslice) a = .nilslice := fun a ha => by simp [vx, ha]
  rw [hl] at hg ⊢
  refine ⟨hg, by simp, hlt, fun a ha => ?_, fun a ha => ?_, fun a ha => ?_⟩
  · rw [hv a ha]; exact SetV.nil A
  · rw [hv a ha]; exact Nat.ne_of_lt h1
  · rw [hv a ha]; exact Nat.ne_of_lt h2
/-- the lists of such an array -/
noncomputable def rows (n : Nat) (f : Nat → Nat) : List (List Int) := (List.range n).map fun a => lst (f a)
theorem rows_length (n : Nat) (f : Nat → Nat) : (rows n f).length = n := by simp [rows]
theorem lx_rows {n a : Nat} (f : Nat → Nat) (h : a < n) : lx (rows n f) a = lst (f a) := by simp [lx, rows, h]
theorem ArrV.LL (h : ArrV A β n cs f bi bo) (hn : n ≤ Most) : LL A (.slice β 0 n n true 1) (rows n f) cs := by
  have hl := h.len
  refine ⟨?_, fun i hi => ?_, by rw [rows_length]; exact hn⟩
  · rw [rows_length]
    exact .inr ⟨β, 0, n, true, cs, rfl, by rw [h.get]; rfl, by omega, by simp [← hl], h.lt, Nat.le_refl _⟩
  · rw [rows_length] at hi
    rw [lx_rows f hi]
    exact (h.el i hi).1
theorem rows_congr {n : Nat} {f g : Nat → Nat} (h : ∀ a, a < n → f a = g a) : rows n f = rows n g := by
  refine List.map_congr_left fun a ha => ?_
  rw [h a (by simpa using ha)]
end Go.Ab

namespace Go.Ab
open Go
variable {P : Program} {A A' : AH}
/-- the cells of a point -/
def pt (cs : List AV) (i : Nat) : List AV := [vx cs (i * 3), vx cs (i * 3 + 1), vx cs (i * 3 + 2)]
theorem Fl.whole {v : AV} {nx : List (List Int)} {cs : List AV} (h : Fl A v nx cs) {T i : Nat} (hs : shapeT P T = some (3, true)) (hi : i < nx.length) : loadA P A T (.ptr (pb v) (po v + i * 3)) = some (.agg (pt cs i)) := by
  rw [SlW.agg h.sl hs hi]
  have hl := h.sl.length
  congr 2
  refine List.ext_getElem? fun j => ?_
  by_cases hj : j < 3
  · rw [List.getElem?_take_of_lt hj, List.getElem?_drop]
    have : j = 0 ∨ j = 1 ∨ j = 2 := by omega
    rcases this with rfl | rfl | rfl
    · rw [vx_get (by omega)]; rfl
    · rw [vx_get (by omega)]; rfl
    · rw [vx_get (by omega)]; rfl
  · rw [List.getElem?_eq_none (by simp; omega), List.getElem?_eq_none (by simp [pt]; omega)]
theorem store_new {z l : List AV} {T n : Nat} (hz : sizeT P T = some n) (hl : l.length = n) (hn : z.length = n) : storeA P (A.push (.cells z)) T (.ptr A.next 0) (.agg l) = some ((A.push (.cells z)).put A.next (.cells l)) := by
  rw [storeA_of (get_box _) (cellsOf_agg l) hz hl (by omega)]
  have := List.drop_eq_nil_of_le (as := z) (i := n) (by omega)
  simp [this]
theorem Ext.new (A : AH) (x y : AObj) : Ext A ((A.push x).put A.next y) := (Ext.box A x).put (Nat.le_refl _) y
theorem get_new (A : AH) (x y : AObj) : ((A.push x).put A.next y).get A.next = some y := by rw [AH.get_put, if_pos rfl]
theorem cell_load {T β m o : Nat} {l : List AV} (h : A.get β = some (.cells l)) (hs : shapeT P T = some (m, false)) : loadA P A T (.ptr β o) = l[o]? := by
  rw [loadA_of (by rw [h]; rfl), partA_one hs]
end Go.Ab

/-! Sets as arrays of sixteen words. -/
namespace Go.Ab
open Go
variable {P : Program}
/-- a word -/
def U (x : Nat) : AV := .int .u64 (x : Int)
theorem U_eq (x : Nat) : U x = .int .u64 (x : Int) := rfl
theorem U_inj {x y : Nat} : U x = U y ↔ x = y := by
  constructor
  · intro h; have := AV.int.inj h; omega
  · intro h; rw [h]
@[simp] theorem U_one : (AV.int .u64 1) = U 1 := rfl
def word (N i : Nat) : Nat := (N >>> (64 * i)) % 2 ^ 64
theorem testBit_word (N i j : Nat) : (word N i).testBit j = (decide (j < 64) && N.testBit (64 * i + j)) := by
  rw [word, Nat.testBit_mod_two_pow, Nat.testBit_shiftRight]
theorem word_lt (N i : Nat) : word N i < 2 ^ 64 := Nat.mod_lt _ (Nat.two_pow_pos _)
theorem words_ex (N : Nat) : ∃ l : List AV, l = (List.range 16).map fun i => U (word N i) := ⟨_, rfl⟩
noncomputable def words (N : Nat) : List AV := Classical.choose (words_ex N)
theorem words_eq (N : Nat) : words N = (List.range 16).map fun i => U (word N i) := Classical.choose_spec (words_ex N)
@[simp] theorem words_length (N : Nat) : (words N).length = 16 := by simp [words_eq]
theorem words_get {N i : Nat} (h : i < 16) : (words N)[i]? = some (U (word N i)) := by simp [words_eq, h]
theorem words_set {N M i x : Nat} (h : ∀ j, j < 16 → word M j = if j = i then x else word N j) : (words N).set i (U x) = words M := by
  refine List.ext_getElem? fun j => ?_
  by_cases hj : j < 16
  · rw [words_get hj, h j hj, List.getElem?_set]
    by_cases hij : i = j
    · subst hij; simp [hj]
    · rw [if_neg hij, if_neg (fun e => hij e.symm), words_get hj]
  · rw [List.getElem?_eq_none (by simp; omega), List.getElem?_eq_none (by simp; omega)]
theorem eq_of_words {N M : Nat} (hN : N < 2 ^ 1024) (hM : M < 2 ^ 1024) (h : ∀ j, j < 16 → word N j = word M j) : N = M := by
  refine Nat.eq_of_testBit_eq fun k => ?_
  by_cases hk : k < 1024
  · have h1 := testBit_word N (k / 64) (k % 64)
    have h2 := testBit_word M (k / 64) (k % 64)
    have h3 : k % 64 < 64 := Nat.mod_lt _ (by omega)
    have h4 : 64 * (k / 64) + k % 64 = k := Nat.div_add_mod k 64
    rw [h4] at h1 h2
    simp only [h3, decide_true, Bool.true_and] at h1 h2
    rw [← h1, ← h2, h (k / 64) (by omega)]
  · rw [testBit_big hN (by omega), testBit_big hM (by omega)]
theorem word_eq_of {N M i : Nat} (h : ∀ j, j < 64 → N.testBit (64 * i + j) = M.testBit (64 * i + j)) : word N i = word M i := by
  refine Nat.eq_of_testBit_eq fun j => ?_
  rw [testBit_word, testBit_word]
  by_cases hj : j < 64
  · rw [h j hj]
  · simp [hj]
theorem word_zero (i : Nat) : word 0 i = 0 := by simp [word]
theorem words_zero : words 0 = List.replicate 16 (U 0) := by
  refine List.ext_getElem? fun j => ?_
  by_cases hj : j < 16
  · rw [words_get hj, word_zero, List.getElem?_replicate, if_pos hj]
  · rw [List.getElem?_eq_none (by simp; omega), List.getElem?_eq_none (by simp; omega)]
/-! the operations on words -/
theorem wrap_u64 {n : Int} (h1 : 0 ≤ n) (h2 : n < 18446744073709551616) : IntKind.u64.wrap n = n := IntWalk.u64_in _ ⟨h1, by omega⟩
theorem ofInt_nat (x : Nat) : BitVec.ofInt 64 (x : Int) = BitVec.ofNat 64 x := by simp
theorem toNat_small {x : Nat} (h : x < 2 ^ 64) : (BitVec.ofNat 64 x).toNat = x := by simp; omega
theorem binA_or {T : TypeId} {x y : Nat} (hx : x < 2 ^ 64) (hy : y < 2 ^ 64) : binA P .or T (U x) (U y) = some (U (x ||| y)) := by
  have h : x ||| y < 2 ^ 64 := Nat.or_lt_two_pow hx hy
  show intBin .or .u64 .u64 (x : Int) (y : Int) = _
  have : intBin .or .u64 .u64 (x : Int) (y : Int) = some (.int .u64 (IntKind.u64.wrap (((BitVec.ofInt 64 (x : Int) ||| BitVec.ofInt 64 (y : Int)).toNat : Nat) : Int))) := rfl
  rw [this, ofInt_nat, ofInt_nat, BitVec.toNat_or, toNat_small hx, toNat_small hy, wrap_u64 (by omega) (by omega)]; rfl
theorem binA_and {T : TypeId} {x y : Nat} (hx : x < 2 ^ 64) (hy : y < 2 ^ 64) : binA P .and T (U x) (U y) = some (U (x &&& y)) := by
  have h : x &&& y < 2 ^ 64 := Nat.lt_of_le_of_lt Nat.and_le_left hx
  have : binA P .and T (U x) (U y) = some (.int .u64 (IntKind.u64.wrap (((BitVec.ofInt 64 (x : Int) &&& BitVec.ofInt 64 (y : Int)).toNat : Nat) : Int))) := rfl
  rw [this, ofInt_nat, ofInt_nat, BitVec.toNat_and, toNat_small hx, toNat_small hy, wrap_u64 (by omega) (by omega)]; rfl
theorem binA_andNot {T : TypeId} {x y : Nat} (hx : x < 2 ^ 64) (hy : y < 2 ^ 64) : binA P .andNot T (U x) (U y) = some (U (x ^^^ (x &&& y))) := by
  have h : x ^^^ (x &&& y) < 2 ^ 64 := Nat.xor_lt_two_pow hx (Nat.lt_of_le_of_lt Nat.and_le_left hx)
  have : binA P .andNot T (U x) (U y) = some (.int .u64 (IntKind.u64.wrap (((BitVec.ofInt 64 (x : Int) &&& ~~~ BitVec.ofInt 64 (y : Int)).toNat : Nat) : Int))) := rfl
  have h2 : (BitVec.ofNat 64 x &&& ~~~ BitVec.ofNat 64 y).toNat = x ^^^ (x &&& y) := by
    refine Nat.eq_of_testBit_eq fun i => ?_
    rw [BitVec.testBit_toNat, BitVec.getLsbD_and, BitVec.getLsbD_not, BitVec.getLsbD_ofNat, BitVec.getLsbD_ofNat, Nat.testBit_xor, Nat.testBit_and]
    by_cases hi : i < 64
    · simp only [hi, decide_true, Bool.true_and]
      cases x.testBit i <;> cases y.testBit i <;> rfl
    · have : x.testBit i = false := Nat.testBit_lt_two_pow (Nat.lt_of_lt_of_le hx (Nat.pow_le_pow_right (by omega) (by omega)))
      simp [hi, this]
  rw [this, ofInt_nat, ofInt_nat, h2, wrap_u64 (by omega) (by omega)]; rfl
theorem binA_shl {T : TypeId} {m : Nat} (hm : m < 64) : binA P .shl T (U 1) (.int .i64 (m : Int)) = some (U (2 ^ m)) := by
  have h1 : binA P .shl T (U 1) (.int .i64 (m : Int)) = intBin .shl .u64 .i64 1 (m : Int) := rfl
  have h2 : (2 : Nat) ^ m < 2 ^ 64 := Nat.pow_lt_pow_right (by omega) hm
  have h3 : min m IntKind.u64.bits = m := Nat.min_eq_left (Nat.le_of_lt hm)
  rw [h1, intBin_shl, h3, Int.one_mul]
  have h4 : ((2 : Int) ^ m) = ((2 ^ m : Nat) : Int) := by simp
  have h5 : ∀ q : Nat, q < 2 ^ 64 → IntKind.u64.wrap (q : Int) = (q : Int) := fun q hq => wrap_u64 (by omega) (by omega)
  rw [h4, h5 _ h2]; rfl
theorem binA_shr {T : TypeId} {x m : Nat} (hm : m < 64) : binA P .shr T (U x) (.int .i64 (m : Int)) = some (U (x >>> m)) := by
  have h1 : binA P .shr T (U x) (.int .i64 (m : Int)) = intBin .shr .u64 .i64 (x : Int) (m : Int) := rfl
  have h3 : min m IntKind.u64.bits = m := Nat.min_eq_left (Nat.le_of_lt hm)
  rw [h1, intBin_shr, h3, Nat.shiftRight_eq_div_pow]
  have h4 : ((2 : Int) ^ m) = ((2 ^ m : Nat) : Int) := by simp
  rw [h4, Int.fdiv_eq_ediv_of_nonneg _ (Int.natCast_nonneg _)]; rfl
theorem binA_eqU {T : TypeId} {x y : Nat} : binA P .eql T (U x) (U y) = some (.bool (decide (x = y))) := by
  have h1 : binA P .eql T (U x) (U y) = intBin .eql .u64 .u64 (x : Int) (y : Int) := rfl
  rw [h1, intBin_eql]
  congr 2
  rw [Bool.eq_iff_iff]; simp; omega
theorem binA_quo {T : TypeId} {n : Nat} (hn : n < 1024) : binA P .quo T (.int .i64 (n : Int)) (.int .i64 64) = some (IV ((n / 64 : Nat) : Int)) := by
  have h1 : binA P .quo T (.int .i64 (n : Int)) (.int .i64 64) = intBin .quo .i64 .i64 (n : Int) 64 := rfl
  rw [h1, intBin_quo _ _ _ (by omega)]
  have : Int.tdiv (n : Int) 64 = ((n / 64 : Nat) : Int) := by rw [Int.tdiv_eq_ediv_of_nonneg (by omega)]; rfl
  rw [this, wrap64_in (by omega) (by omega)]
theorem binA_rem {T : TypeId} {n : Nat} : binA P .rem T (.int .i64 (n : Int)) (.int .i64 64) = some (IV ((n % 64 : Nat) : Int)) := by
  have h1 : binA P .rem T (.int .i64 (n : Int)) (.int .i64 64) = intBin .rem .i64 .i64 (n : Int) 64 := rfl
  rw [h1, intBin_rem _ _ _ (by omega)]
  have : Int.tmod (n : Int) 64 = ((n % 64 : Nat) : Int) := by rw [Int.tmod_eq_emod_of_nonneg (by omega)]; rfl
  rw [this]
/-! words of sets -/
theorem word_or (N M i : Nat) : word (N ||| M) i = word N i ||| word M i := by
  refine Nat.eq_of_testBit_eq fun j => ?_
  rw [Nat.testBit_or, testBit_word, testBit_word, testBit_word, Nat.testBit_or]
  by_cases hj : j < 64 <;> simp [hj]
theorem word_pow {n i : Nat} : word (2 ^ n) i = if i = n / 64 then 2 ^ (n % 64) else 0 := by
  refine Nat.eq_of_testBit_eq fun j => ?_
  rw [testBit_word, Nat.testBit_two_pow]
  by_cases hi : i = n / 64
  · rw [if_pos hi, Nat.testBit_two_pow, Bool.eq_iff_iff]
    simp
    omega
  · rw [if_neg hi, Nat.zero_testBit, Bool.eq_false_iff]
    simp
    omega
theorem words_or_pow {N n : Nat} : (words N).set (n / 64) (U (word N (n / 64) ||| 2 ^ (n % 64))) = words (N ||| 2 ^ n) := by
  refine words_set fun j _ => ?_
  rw [word_or, word_pow]
  by_cases hj : j = n / 64
  · subst hj; simp
  · simp [hj]
theorem testBit_of_word {N n : Nat} : (((word N (n / 64)) >>> (n % 64)) &&& 1 = 1) ↔ N.testBit n = true := by
  have h : (word N (n / 64)).testBit (n % 64) = N.testBit n := by
    rw [testBit_word]
    have h3 : n % 64 < 64 := Nat.mod_lt _ (by omega)
    simp only [h3, decide_true, Bool.true_and, Nat.div_add_mod]
  rw [← h, Nat.testBit]
  simp [Nat.and_comm]
/-- the first k words of one, or'd into another -/
def mixin (N M k : Nat) : Nat := N ||| (M % 2 ^ (64 * k))
theorem mixin_zero (N M : Nat) : mixin N M 0 = N := by simp [mixin, Nat.mod_one]
theorem mod_ltN {M n : Nat} (h : M < 2 ^ n) : M % 2 ^ n = M := Nat.mod_eq_of_lt h
theorem mixin_all {N M : Nat} (h : M < 2 ^ 1024) : mixin N M 16 = N ||| M := by
  have e : (64 * 16 : Nat) = 1024 := rfl
  rw [mixin, e, mod_ltN (n := 1024) h]
theorem mixin_lt {N M : Nat} (hN : N < 2 ^ 1024) (h : M < 2 ^ 1024) (k : Nat) : mixin N M k < 2 ^ 1024 := or_lt hN (Nat.lt_of_le_of_lt (Nat.mod_le _ _) h)
theorem word_mod (M i k : Nat) : word (M % 2 ^ (64 * k)) i = if i < k then word M i else 0 := by
  refine Nat.eq_of_testBit_eq fun j => ?_
  by_cases hi : i < k
  · rw [if_pos hi, testBit_word, testBit_word, Nat.testBit_mod_two_pow]
    by_cases hj : j < 64
    · have : 64 * i + j < 64 * k := by omega
      simp [this]
    · simp [hj]
  · rw [if_neg hi, testBit_word, Nat.testBit_mod_two_pow, Nat.zero_testBit]
    have : ¬ 64 * i + j < 64 * k := by omega
    simp [this]
theorem word_mixin (N M i k : Nat) : word (mixin N M k) i = word N i ||| (if i < k then word M i else 0) := by
  rw [mixin, word_or, word_mod]
theorem words_mixin {N M k : Nat} : (words (mixin N M k)).set k (U (word (mixin N M k) k ||| word M k)) = words (mixin N M (k + 1)) := by
  refine words_set fun j _ => ?_
  rw [word_mixin, word_mixin]
  by_cases hj : j = k
  · subst hj; simp
  · rw [if_neg hj]
    by_cases h : j < k
    · rw [if_pos (by omega), word_mixin, if_pos h]
    · rw [if_neg (by omega), word_mixin, if_neg h]
theorem word_thr (S G K i : Nat) : word (thr S G K) i = (word S i ^^^ (word S i &&& word K i)) ||| word G i := by
  refine Nat.eq_of_testBit_eq fun j => ?_
  rw [Nat.testBit_or, Nat.testBit_xor, Nat.testBit_and, testBit_word, testBit_word, testBit_word, testBit_word, testBit_thr]
  by_cases hj : j < 64
  · simp only [hj, decide_true, Bool.true_and]
    cases S.testBit (64 * i + j) <;> cases K.testBit (64 * i + j) <;> cases G.testBit (64 * i + j) <;> rfl
  · simp [hj]
theorem words_thr {T k : Nat} : (words (T % 2 ^ (64 * k))).set k (U (word T k)) = words (T % 2 ^ (64 * (k + 1))) := by
  refine words_set fun j _ => ?_
  rw [word_mod, word_mod]
  by_cases hj : j = k
  · subst hj; simp
  · rw [if_neg hj]
    by_cases h : j < k
    · rw [if_pos h, if_pos (by omega)]
    · rw [if_neg h, if_neg (by omega)]
end Go.Ab
namespace Go.Ab
open Go
variable {P : Program} {A A' : AH}
/-! arrays of such arrays -/
theorem flat_length {L : List (List AV)} (h : ∀ l ∈ L, l.length = 16) : L.flatten.length = L.length * 16 := by
  induction L with
  | nil => rfl
  | cons l L ih =>
    rw [List.flatten_cons, List.length_append, ih fun x hx => h x (List.mem_cons_of_mem _ hx), h l (by simp), List.length_cons, Nat.add_mul]; omega
theorem flat_drop {L : List (List AV)} (h : ∀ l ∈ L, l.length = 16) (i : Nat) : L.flatten.drop (i * 16) = (L.drop i).flatten := by
  induction L generalizing i with
  | nil => simp
  | cons l L ih =>
    have hl := h l (by simp)
    cases i with
    | zero => simp
    | succ i =>
      rw [List.flatten_cons, List.drop_succ_cons, ← ih (fun x hx => h x (List.mem_cons_of_mem _ hx)) i, List.drop_append]
      have : (i + 1) * 16 - l.length = i * 16 := by omega
      rw [this, List.drop_eq_nil_of_le (by omega), List.nil_append]
theorem flat_take {L : List (List AV)} (h : ∀ l ∈ L, l.length = 16) (i : Nat) : L.flatten.take (i * 16) = (L.take i).flatten := by
  induction L generalizing i with
  | nil => simp
  | cons l L ih =>
    have hl := h l (by simp)
    cases i with
    | zero => simp
    | succ i =>
      rw [List.flatten_cons, List.take_succ_cons, List.flatten_cons, ← ih (fun x hx => h x (List.mem_cons_of_mem _ hx)) i, List.take_append]
      have : (i + 1) * 16 - l.length = i * 16 := by omega
      rw [this, List.take_of_length_le (by omega)]
theorem flat_part {L : List (List AV)} (h : ∀ l ∈ L, l.length = 16) {i : Nat} (hi : i < L.length) : (L.flatten.drop (i * 16)).take 16 = L[i] := by
  have hl := h _ (List.getElem_mem hi)
  rw [flat_drop h, List.drop_eq_getElem_cons hi, List.flatten_cons, List.take_append_of_le_length (by omega), List.take_of_length_le (by omega)]
theorem flat_get {L : List (List AV)} (h : ∀ l ∈ L, l.length = 16) {i j : Nat} (hi : i < L.length) (hj : j < 16) : L.flatten[i * 16 + j]? = L[i][j]? := by
  rw [← flat_part h hi, List.getElem?_take_of_lt hj, List.getElem?_drop]
theorem flat_over {L : List (List AV)} (h : ∀ l ∈ L, l.length = 16) {i : Nat} (hi : i < L.length) (w : List AV) : L.flatten.take (i * 16) ++ w ++ L.flatten.drop (i * 16 + 16) = (L.set i w).flatten := by
  have h1 : i * 16 + 16 = (i + 1) * 16 := by omega
  rw [h1, flat_take h, flat_drop h, List.set_eq_take_append_cons_drop, if_pos hi, List.flatten_append, List.flatten_cons, List.append_assoc]
theorem flat_set {L : List (List AV)} (h : ∀ l ∈ L, l.length = 16) {i j : Nat} (hi : i < L.length) (hj : j < 16) (x : AV) : L.flatten.take (i * 16 + j) ++ [x] ++ L.flatten.drop (i * 16 + j + 1) = (L.set i (L[i].set j x)).flatten := by
  have hl := h _ (List.getElem_mem hi)
  have hp := flat_part h hi
  rw [← flat_over h hi, List.set_eq_take_append_cons_drop, if_pos (by omega), ← hp, List.take_take, List.drop_take, List.drop_drop, Nat.min_eq_left (by omega)]
  have e1 : L.flatten.take (i * 16 + j) = L.flatten.take (i * 16) ++ (L.flatten.drop (i * 16)).take j := by rw [List.take_add]
  have e2 : L.flatten.drop (i * 16 + j + 1) = (L.flatten.drop (i * 16 + (j + 1))).take (16 - (j + 1)) ++ L.flatten.drop (i * 16 + 16) := by
    rw [← List.take_append_drop (16 - (j + 1)) (L.flatten.drop (i * 16 + j + 1)), List.drop_drop]
    congr 2
    omega
  rw [e1, e2]
  simp
noncomputable def bcells (n : Nat) (f : Nat → Nat) : List AV := ((List.range n).map fun i => words (f i)).flatten
theorem brow (n : Nat) (f : Nat → Nat) : ∀ l ∈ (List.range n).map (fun i => words (f i)), l.length = 16 := by
  intro l hl
  obtain ⟨i, _, rfl⟩ := List.mem_map.1 hl
  exact words_length _
theorem bcells_length (n : Nat) (f : Nat → Nat) : (bcells n f).length = n * 16 := by rw [bcells, flat_length (brow n f)]; simp
theorem brow_set {n i : Nat} (hi : i < n) (f : Nat → Nat) (M : Nat) : ((List.range n).map fun i => words (f i)).set i (words M) = (List.range n).map fun k => words (updF f i M k) := by
  refine List.ext_getElem? fun j => ?_
  rw [List.getElem?_set]
  by_cases hij : i = j
  · subst hij; simp [hi, updF_same]
  · rw [if_neg hij]
    by_cases hj : j < n
    · simp [hj, updF_other (fun e => hij e.symm)]
    · simp [hj]
theorem bcells_part {n i : Nat} (hi : i < n) (f : Nat → Nat) : ((bcells n f).drop (i * 16)).take 16 = words (f i) := by
  rw [bcells, flat_part (brow n f) (by simpa using hi)]; simp
theorem bcells_get {n i j : Nat} (hi : i < n) (hj : j < 16) (f : Nat → Nat) : (bcells n f)[i * 16 + j]? = some (U (word (f i) j)) := by
  rw [bcells, flat_get (brow n f) (by simpa using hi) hj]; simp [words_get hj]
theorem bcells_over {n i : Nat} (hi : i < n) (f : Nat → Nat) (M : Nat) : (bcells n f).take (i * 16) ++ words M ++ (bcells n f).drop (i * 16 + 16) = bcells n (updF f i M) := by
  rw [bcells, flat_over (brow n f) (by simpa using hi), brow_set hi]; rfl
theorem bcells_set {n i j M : Nat} {x : AV} (hi : i < n) (hj : j < 16) (f : Nat → Nat) (h : (words (f i)).set j x = words M) : (bcells n f).take (i * 16 + j) ++ [x] ++ (bcells n f).drop (i * 16 + j + 1) = bcells n (updF f i M) := by
  rw [bcells, flat_set (brow n f) (by simpa using hi) hj]
  have : ((List.range n).map fun i => words (f i))[i]'(by simpa using hi) = words (f i) := by simp
  rw [this, h, brow_set hi]; rfl
/-- An array of n sets, as words. -/
structure ArrB (A : AH) (β n : Nat) (f : Nat → Nat) : Prop where
  get : A.get β = some (.cells (bcells n f))
  lt : β < A.next
variable {β n i j : Nat} {f : Nat → Nat}
theorem ArrB.ext (h : ArrB A β n f) (hx : Ext A A') : ArrB A' β n f := ⟨by rw [hx.2 β h.lt]; exact h.get, Nat.lt_of_lt_of_le h.lt hx.1⟩
theorem ArrB.idx {T el : TypeId} {k : IntKind} (hu : P.underlying T = some (.slice el)) (hz : sizeT P el = some 16) (hi : i < n) : idxV P T (.slice β 0 n n true 16) (.int k (i : Int)) = some (.ptr β (i * 16)) := by
  rw [idxV_slice hu hz hi]; simp
theorem ArrB.whole (h : ArrB A β n f) {T : TypeId} (hs : shapeT P T = some (16, true)) (hi : i < n) : loadA P A T (.ptr β (i * 16)) = some (.agg (words (f i))) := by
  have hl := bcells_length n f
  rw [loadA_of (by rw [h.get]; rfl), partA_agg hs (by omega), bcells_part hi]
theorem ArrB.store (h : ArrB A β n f) {T M : Nat} (hz : sizeT P T = some 16) (hi : i < n) : storeA P A T (.ptr β (i * 16)) (.agg (words M)) = some (A.put β (.cells (bcells n (updF f i M)))) := by
  have hl := bcells_length n f
  rw [storeA_of h.get (cellsOf_agg _) hz (words_length M) (by omega), bcells_over hi]
theorem ArrB.word (h : ArrB A β n f) {T m : Nat} (hs : shapeT P T = some (m, false)) (hi : i < n) (hj : j < 16) : loadA P A T (.ptr β (i * 16 + j)) = some (U (word (f i) j)) := by
  rw [loadA_of (by rw [h.get]; rfl), partA_one hs, bcells_get hi hj]
theorem ArrB.wstore (h : ArrB A β n f) {T M x : Nat} (hz : sizeT P T = some 1) (hi : i < n) (hj : j < 16) (hw : (words (f i)).set j (U x) = words M) : storeA P A T (.ptr β (i * 16 + j)) (U x) = some (A.put β (.cells (bcells n (updF f i M)))) := by
  have hl := bcells_length n f
  rw [storeA_of h.get (by rfl) hz rfl (by omega), bcells_set hi hj f hw]
theorem ArrB.put (A : AH) (f : Nat → Nat) (n : Nat) (hβ : β < A.next) : ArrB (A.put β (.cells (bcells n f))) β n f := ⟨by rw [AH.get_put, if_pos rfl], hβ⟩
theorem ArrB.other (h : ArrB A β n f) {γ : Nat} (hne : β ≠ γ) (x : AObj) : ArrB (A.put γ x) β n f := ⟨by rw [AH.get_put, if_neg hne]; exact h.get, h.lt⟩
/-- one such array -/
structure WordB (A : AH) (β : Nat) (N : Nat) : Prop where
  get : A.get β = some (.cells (words N))
  lt : β < A.next
theorem WordB.ext {N : Nat} (h : WordB A β N) (hx : Ext A A') : WordB A' β N := ⟨by rw [hx.2 β h.lt]; exact h.get, Nat.lt_of_lt_of_le h.lt hx.1⟩
theorem idxW {T el : TypeId} {k : IntKind} {o : Nat} (hu : P.underlying T = some (.array 16 el)) (hz : sizeT P el = some 1) (hj : j < 16) : idxV P T (.ptr β o) (.int k (j : Int)) = some (.ptr β (o + j)) := by
  rw [idxV_array hu hz hj]; simp
theorem WordB.whole {N : Nat} (h : WordB A β N) {T : TypeId} (hs : shapeT P T = some (16, true)) : loadA P A T (.ptr β 0) = some (.agg (words N)) := by
  have := List.take_of_length_le (l := words N) (i := 16) (by simp)
  rw [loadA_of (by rw [h.get]; rfl), partA_agg hs (by simp)]; simp [this]
theorem WordB.word {N : Nat} (h : WordB A β N) {T m : Nat} (hs : shapeT P T = some (m, false)) (hj : j < 16) : loadA P A T (.ptr β j) = some (U (word N j)) := by
  rw [loadA_of (by rw [h.get]; rfl), partA_one hs, words_get hj]
theorem WordB.wstore {N : Nat} (h : WordB A β N) {T M x : Nat} (hz : sizeT P T = some 1) (hj : j < 16) (hw : (words N).set j (U x) = words M) : storeA P A T (.ptr β j) (U x) = some (A.put β (.cells (words M))) := by
  rw [storeA_of h.get (by rfl) hz rfl (by simp; omega), ← hw, List.set_eq_take_append_cons_drop, if_pos (by simp; omega)]; simp
theorem WordB.store {N : Nat} (h : WordB A β N) {T M : Nat} (hz : sizeT P T = some 16) : storeA P A T (.ptr β 0) (.agg (words M)) = some (A.put β (.cells (words M))) := by
  have := List.drop_eq_nil_of_le (as := words N) (i := 16) (by simp)
  rw [storeA_of h.get (cellsOf_agg _) hz (words_length M) (by simp)]; simp [this]
theorem WordB.put (A : AH) (N : Nat) (hβ : β < A.next) : WordB (A.put β (.cells (words N))) β N := ⟨by rw [AH.get_put, if_pos rfl], hβ⟩
theorem WordB.other {N : Nat} (h : WordB A β N) {γ : Nat} (hne : β ≠ γ) (x : AObj) : WordB (A.put γ x) β N := ⟨by rw [AH.get_put, if_neg hne]; exact h.get, h.lt⟩
theorem WordB.new (A : AH) (N : Nat) : WordB (A.push (.cells (words N))) A.next N := ⟨get_box _, Nat.lt_succ_self _⟩
/-- comparing -/
theorem eqElems_words {el : TypeId} {k : IntKind} (hu : P.underlying el = some (.int k)) : ∀ (l m : List Nat), l.length = m.length → eqElems P el (l.map U) (m.map U) = some (decide (l = m)) := by
  intro l
  induction l with
  | nil => intro m hm; cases m with
    | nil => rfl
    | cons b m => cases hm
  | cons a l ih =>
    intro m hm
    cases m with
    | nil => cases hm
    | cons b m =>
      have hs : eqScalar P el (U a) (U b) = some (decide (a = b)) := by
        simp only [eqScalar, hu, U_eq, intEq_eq, if_true]
        congr 1
        rw [Bool.eq_iff_iff]; simp; omega
      rw [List.map_cons, List.map_cons]
      simp only [eqElems, hs]
      by_cases hab : a = b
      · subst hab
        simp only [decide_true]
        rw [ih m (by simpa using hm)]
        simp
      · simp [hab]
end Go.Ab

/-! The arguments of a call as a heap of what is only read. -/
namespace Go.Ab
open Go
variable [LoopTab]

/-- A heap of what is only read; nothing is named from its end on. -/
structure Rd (A : AH) (ρ : Rho) (W : World) : Prop where
  hr : HR A ρ W
  free : ∀ β, A.next ≤ β → ρ β = none
  dead : ∀ β x, A.get β = some x → x.live = false

theorem Rd.empty (W : World) : Rd ⟨0, .leaf⟩ (fun _ => none) W := by
  have hg : ∀ β x, (⟨0, .leaf⟩ : AH).get β ≠ some x := fun β x h => by cases h
  exact ⟨⟨fun β x h => absurd h (hg β x), fun β β' x x' l l' h => absurd h (hg β x), fun β x h => absurd h (hg β x)⟩, fun _ _ => rfl, fun β x h => absurd h (hg β x)⟩

/-- more memory -/
structure RdTo (A : AH) (ρ : Rho) (W : World) (A' : AH) (ρ' : Rho) : Prop where
  rd : Rd A' ρ' W
  le : ρ.le ρ'
  ext : Ext A A'
theorem RdTo.refl {A : AH} {ρ : Rho} {W : World} (h : Rd A ρ W) : RdTo A ρ W A ρ := ⟨h, fun _ _ h => h, Ext.refl A⟩
theorem RdTo.trans {A A' A'' : AH} {ρ ρ' ρ'' : Rho} {W : World} (h : RdTo A ρ W A' ρ') (k : RdTo A' ρ' W A'' ρ'') : RdTo A ρ W A'' ρ'' := ⟨k.rd, fun β x hx => k.le _ _ (h.le _ _ hx), h.ext.trans k.ext⟩

/-- A slice of the world: n elements of z cells each, all readable. -/
def WSl (W : World) (v : Value) (n z : Nat) (V : Nat → Value) : Prop :=
  (v = .slice none 0 0 ∧ n = 0) ∨ ∃ a cap, v = .slice (some a) n cap ∧ n ≤ cap ∧ ∀ i, i < cap * z → W.cell? (a.add i) = some (V i)

theorem Rd.push {A : AH} {ρ : Rho} {W : World} (h : Rd A ρ W) (cs : List AV) (l : Nat × Nat × Nat) (ho : OR (ρ.add A.next l) W l.1 l.2.1 l.2.2 (.ro cs)) : RdTo A ρ W (A.push (.ro cs)) (ρ.add A.next l) := by
  have hle : ρ.le (ρ.add A.next l) := Rho.le_add (h.free _ (Nat.le_refl _))
  have hd : ∀ β x, (A.push (.ro cs)).get β = some x → x.live = false := fun β x hx => by
    rw [AH.get_push] at hx
    split at hx
    · cases hx; rfl
    · exact h.dead β x hx
  refine ⟨⟨⟨fun β x hx => ?_, fun β β' x x' _ _ h1 _ h3 => absurd (hd β x h1) (by rw [h3]; decide), fun β x hx => ?_⟩, fun β hβ => ?_, hd⟩, hle, (Ext.refl A).push _⟩
  · rw [AH.get_push] at hx
    split at hx
    · rename_i e; subst e; cases hx
      exact ⟨l.1, l.2.1, l.2.2, Rho.add_same _ _ _, ho⟩
    · obtain ⟨b, base, sz, g1, g2⟩ := h.hr.obj β x hx
      exact ⟨b, base, sz, hle _ _ g1, g2.congr hle (Nat.le_refl _) rfl⟩
  · rw [AH.get_push] at hx
    rw [AH.next_push]
    split at hx
    · omega
    · exact Nat.lt_succ_of_lt (h.hr.top β x hx)
  · rw [AH.next_push] at hβ
    rw [Rho.add_ne (by omega)]
    exact h.free β (by omega)

theorem Rd.slice {A : AH} {ρ : Rho} {W : World} (h : Rd A ρ W) {v : Value} {n z : Nat} {V : Nat → Value} {cs : List AV} (hz : 0 < z) (hs : WSl W v n z V) (hl : cs.length = n * z)
    (hc : ∀ i a, cs[i]? = some a → VR ρ a (V i) ∧ (V i).oneCell' = true) : ∃ A' ρ' x, RdTo A ρ W A' ρ' ∧ VR ρ' x v ∧ SlW A' x z n cs := by
  rcases hs with ⟨rfl, rfl⟩ | ⟨a, cap, rfl, hn, hcell⟩
  · have : cs = [] := List.length_eq_zero_iff.1 (by omega)
    exact ⟨A, ρ, .nilslice, .refl h, rfl, .inl ⟨.inl rfl, rfl, this⟩⟩
  · cases cap with
    | zero =>
      obtain rfl : n = 0 := by omega
      have : cs = [] := List.length_eq_zero_iff.1 (by omega)
      exact ⟨A, ρ, .slice 0 0 0 0 true z, .refl h, .inl ⟨rfl, rfl, rfl, a, rfl⟩, .inl ⟨.inr rfl, rfl, this⟩⟩
    | succ c =>
      obtain ⟨b, off, spot⟩ := a
      have hpos : 0 < (c + 1) * z := Nat.mul_pos (Nat.succ_pos c) hz
      have h0 := hcell 0 hpos
      have hsb : spot = none ∧ b < W.heap.size := by
        simp only [Addr.add, if_true, World.cell?] at h0
        cases hg : W.heap[b]? with
        | none => rw [hg] at h0; cases h0
        | some o =>
          rw [hg] at h0
          refine ⟨?_, (Array.getElem?_eq_some_iff.1 hg).1⟩
          cases spot with
          | none => rfl
          | some s => cases o <;> simp at h0
      obtain ⟨rfl, hb⟩ := hsb
      have hadd : ∀ i, (⟨b, off, none⟩ : Addr).add i = ⟨b, off + i, none⟩ := fun i => by
        unfold Addr.add
        by_cases hi : i = 0
        · subst hi; simp
        · simp [hi]
      have hfr := h.free _ (Nat.le_refl _)
      have hle : ρ.le (ρ.add A.next (b, off, off + (c + 1) * z)) := Rho.le_add hfr
      have hnz : n * z ≤ (c + 1) * z := Nat.mul_le_mul_right z hn
      have hto := h.push cs (b, off, off + (c + 1) * z) ⟨hb, fun i a ha => by
        have hi := (List.getElem?_eq_some_iff.1 ha).1
        have := hcell i (by omega)
        rw [hadd] at this
        exact ⟨V i, this, VR.mono hle _ _ (hc i a ha).1, (hc i a ha).2⟩⟩
      refine ⟨_, _, .slice A.next 0 n (c + 1) true z, hto, .inr ⟨b, off, off + (c + 1) * z, off, c + 1, Rho.add_same _ _ _, rfl, fun _ => rfl, hn, Nat.le_refl _, Nat.le_refl _, Nat.le_refl _, fun _ => rfl⟩,
        .inr ⟨A.next, 0, c + 1, true, cs, rfl, ?_, by omega, ?_, Nat.lt_succ_self _, hn⟩⟩
      · rw [AH.get_push, if_pos rfl]; rfl
      · rw [List.drop_zero, ← hl, List.take_length]

/-- A list of ints of the world. -/
def WInts (W : World) (v : Value) (l : List Int) : Prop := (∃ V, WSl W v l.length 1 V ∧ ∀ i, i < l.length → V i = .int .i64 (ix l i)) ∧ l.length ≤ Most

theorem Rd.ints {A : AH} {ρ : Rho} {W : World} (h : Rd A ρ W) {v : Value} {l : List Int} (hs : WInts W v l) : ∃ A' ρ' x, RdTo A ρ W A' ρ' ∧ VR ρ' x v ∧ IntSl A' x l := by
  obtain ⟨⟨V, h1, h2⟩, h3⟩ := hs
  obtain ⟨A', ρ', x, g1, g2, g3⟩ := h.slice (cs := l.map IV) (by omega) h1 (by simp) (fun i a ha => by
    rw [List.getElem?_map] at ha
    cases hi : l[i]? with
    | none => rw [hi] at ha; cases ha
    | some q =>
      rw [hi] at ha
      cases some_inj ha
      obtain ⟨hlt, hq⟩ := List.getElem?_eq_some_iff.1 hi
      rw [h2 i hlt, ix_eq hlt, hq]
      exact ⟨rfl, rfl⟩)
  exact ⟨A', ρ', x, g1, g2, g3, h3⟩

/-- Several of them. -/
theorem Rd.rows {A : AH} {ρ : Rho} {W : World} (h : Rd A ρ W) (V : Nat → Value) (L : Nat → List Int) : ∀ n, (∀ i, i < n → WInts W (V i) (L i)) →
    ∃ A' ρ' vs, RdTo A ρ W A' ρ' ∧ vs.length = n ∧ ∀ i, i < n → VR ρ' (vx vs i) (V i) ∧ IntSl A' (vx vs i) (L i)
  | 0, _ => ⟨A, ρ, [], .refl h, rfl, fun i hi => by omega⟩
  | n + 1, hn => by
    obtain ⟨A1, ρ1, vs, t1, hl, hv⟩ := Rd.rows h V L n fun i hi => hn i (by omega)
    obtain ⟨A2, ρ2, x, t2, g1, g2⟩ := t1.rd.ints (hn n (by omega))
    refine ⟨A2, ρ2, vs ++ [x], t1.trans t2, by simp [hl], fun i hi => ?_⟩
    by_cases he : i < n
    · have : vx (vs ++ [x]) i = vx vs i := by simp [vx, List.getElem?_append_left (by omega : i < vs.length)]
      rw [this]
      exact ⟨VR.mono t2.le _ _ (hv i he).1, (hv i he).2.ext t2.ext⟩
    · have : i = n := by omega
      subst this
      have : vx (vs ++ [x]) i = x := by simp [vx, ← hl]
      rw [this]
      exact ⟨g1, g2⟩

/-- A list of lists. -/
theorem Rd.lists {A : AH} {ρ : Rho} {W : World} (h : Rd A ρ W) {v : Value} {V : Nat → Value} {L : Nat → List Int} {n : Nat} (hn : n ≤ Most) (hs : WSl W v n 1 V) (ho : ∀ i, i < n → (V i).oneCell' = true) (hr : ∀ i, i < n → WInts W (V i) (L i)) :
    ∃ A' ρ' x vs, RdTo A ρ W A' ρ' ∧ VR ρ' x v ∧ LL A' x ((List.range n).map L) vs := by
  obtain ⟨A1, ρ1, vs, t1, hl, hv⟩ := h.rows V L n hr
  obtain ⟨A2, ρ2, x, t2, g1, g2⟩ := t1.rd.slice (cs := vs) (by omega) hs (by omega) (fun i a ha => by
    obtain ⟨hlt, hq⟩ := List.getElem?_eq_some_iff.1 ha
    have : vx vs i = a := by simp [vx, ha]
    rw [← this]
    exact ⟨(hv i (by omega)).1, ho i (by omega)⟩)
  refine ⟨A2, ρ2, x, vs, t1.trans t2, g1, ⟨by simpa using g2, fun i hi => ?_, by simpa using hn⟩⟩
  have hi' : i < n := by simpa using hi
  have : lx ((List.range n).map L) i = L i := by simp [lx, hi']
  rw [this]
  exact (hv i hi').2.ext t2.ext

/-- The points of a flow: two ints and a list each. -/
theorem Rd.flow {A : AH} {ρ : Rho} {W : World} (h : Rd A ρ W) {v : Value} {V : Nat → Value} {x y : Nat → Int} {U : Nat → Value} {L : Nat → List Int} {n : Nat} (hn : n ≤ Most) (hs : WSl W v n 3 V)
    (h0 : ∀ i, i < n → V (i * 3) = .int .i64 (x i)) (h1 : ∀ i, i < n → V (i * 3 + 1) = .int .i64 (y i)) (h2 : ∀ i, i < n → V (i * 3 + 2) = U i) (ho : ∀ i, i < n → (U i).oneCell' = true) (hr : ∀ i, i < n → WInts W (U i) (L i)) :
    ∃ A' ρ' p cs, RdTo A ρ W A' ρ' ∧ VR ρ' p v ∧ Fl A' p ((List.range n).map L) cs := by
  obtain ⟨A1, ρ1, vs, t1, hl, hv⟩ := h.rows U L n hr
  have hcs : ∀ i, ((List.range (n * 3)).map fun j => if j % 3 = 0 then IV (x (j / 3)) else if j % 3 = 1 then IV (y (j / 3)) else vx vs (j / 3))[i]? = if i < n * 3 then some (if i % 3 = 0 then IV (x (i / 3)) else if i % 3 = 1 then IV (y (i / 3)) else vx vs (i / 3)) else none := fun i => by
    rw [List.getElem?_map]
    by_cases hi : i < n * 3
    · rw [List.getElem?_range hi, if_pos hi]; rfl
    · rw [if_neg hi, List.getElem?_eq_none (by simpa using hi)]; rfl
  obtain ⟨A2, ρ2, p, t2, g1, g2⟩ := t1.rd.slice (cs := (List.range (n * 3)).map fun j => if j % 3 = 0 then IV (x (j / 3)) else if j % 3 = 1 then IV (y (j / 3)) else vx vs (j / 3)) (by omega) hs (by simp) (fun i a ha => by
    rw [hcs] at ha
    by_cases hi : i < n * 3
    · rw [if_pos hi] at ha
      cases some_inj ha
      have hq : i / 3 < n := by omega
      have e : i = i / 3 * 3 + i % 3 := by omega
      by_cases m0 : i % 3 = 0
      · rw [if_pos m0]
        have : V i = .int .i64 (x (i / 3)) := by rw [← h0 _ hq]; congr 1; omega
        rw [this]; exact ⟨rfl, rfl⟩
      · rw [if_neg m0]
        by_cases m1 : i % 3 = 1
        · rw [if_pos m1]
          have : V i = .int .i64 (y (i / 3)) := by rw [← h1 _ hq]; congr 1; omega
          rw [this]; exact ⟨rfl, rfl⟩
        · rw [if_neg m1]
          have : V i = U (i / 3) := by rw [← h2 _ hq]; congr 1; omega
          rw [this]; exact ⟨(hv _ hq).1, ho _ hq⟩
    · rw [if_neg hi] at ha; cases ha)
  refine ⟨A2, ρ2, p, _, t1.trans t2, g1, ⟨by simpa using g2, fun i hi => ?_, by simpa using hn⟩⟩
  have hi' : i < n := by simpa using hi
  have : lx ((List.range n).map L) i = L i := by simp [lx, hi']
  rw [this]
  have hx : vx ((List.range (n * 3)).map fun j => if j % 3 = 0 then IV (x (j / 3)) else if j % 3 = 1 then IV (y (j / 3)) else vx vs (j / 3)) (i * 3 + 2) = vx vs i := by
    rw [vx, List.getD_eq_getElem?_getD, hcs, if_pos (by omega)]
    have m : (i * 3 + 2) % 3 = 2 := by omega
    have d : (i * 3 + 2) / 3 = i := by omega
    simp [m, d]
  rw [hx]
  exact (hv i hi').2.ext t2.ext
end Go.Ab

/-! What the reading of the arguments gives: lists of lists, flows. -/
namespace Go.Ab
open Go
section
variable {H : Type} {enc : TypeId × Value → H} {P : Program} {W : World}

theorem most_maxLen : maxLen ≤ Most := by decide

/-- A list of ints, opened. -/
theorem WInts.of_row {k : Option Addr} {L C : Nat} {Z : List Int} (hl : L ≤ C) (hm : C ≤ maxLen) (hz : Z.length = C) (hn : k = none → C = 0)
    (hc : ∀ a, k = some a → ∀ c, c < C → W.cell? (a.add c) = some (.int .i64 (Z.getD c 0))) : WInts W (.slice k L C) (Z.take L) := by
  have hlen : (Z.take L).length = L := by rw [List.length_take]; omega
  refine ⟨?_, by rw [hlen]; exact Nat.le_trans hl (Nat.le_trans hm most_maxLen)⟩
  rw [hlen]
  cases k with
  | none =>
    have h0 := hn rfl
    subst h0
    obtain rfl : L = 0 := by omega
    exact ⟨fun _ => .int .i64 0, .inl ⟨rfl, rfl⟩, fun i hi => by omega⟩
  | some a =>
    refine ⟨fun c => .int .i64 (Z.getD c 0), .inr ⟨a, C, rfl, hl, fun i hi => hc a rfl i (by omega)⟩, fun i hi => ?_⟩
    show Value.int .i64 (Z.getD i 0) = .int .i64 (ix (Z.take L) i)
    rw [ix, List.getD_eq_getElem?_getD, List.getD_eq_getElem?_getD, List.getElem?_take_of_lt hi]

theorem WInts.of_trod {t e : TypeId} {fuel : Nat} {v : Value} {x : DataW H × List MemPlace} (ht : P.underlying t = some (.slice e)) (he : P.underlying e = some (.int .i64)) (hc : P.cellsOf e = 1)
    (h : DataW.trod enc P W 0 (fun _ => true) true fuel t [v] = some x) : v.oneCell' = true ∧ ∃ l, WInts W v l := by
  rcases ChangeShapes.open_ints ht he hc h with ⟨hcs, _⟩ | ⟨a, len, cap, zs, hcs, _, hl, hm, hz, _, hcell, _⟩
  · simp only [List.cons.injEq, and_true] at hcs
    subst hcs
    exact ⟨rfl, [], WInts.of_row (Z := []) (Nat.le_refl _) (Nat.zero_le _) rfl (fun _ => rfl) (fun a h => by cases h)⟩
  · simp only [List.cons.injEq, and_true] at hcs
    subst hcs
    simp only [if_true] at hz
    exact ⟨rfl, _, WInts.of_row hl hm hz (fun h => by cases h) (fun a' ha c hc' => by cases ha; exact hcell c (by omega))⟩

/-- A list of lists of ints, opened. -/
theorem open_lists {t e q : TypeId} {fuel : Nat} {v : Value} {x : DataW H × List MemPlace} (ht : P.underlying t = some (.slice e)) (he : P.underlying e = some (.slice q)) (hq : P.underlying q = some (.int .i64)) (ce : P.cellsOf e = 1) (cq : P.cellsOf q = 1)
    (h : DataW.trod enc P W 0 (fun _ => true) true fuel t [v] = some x) :
    ∃ (n : Nat) (V : Nat → Value) (L : Nat → List Int), n ≤ Most ∧ WSl W v n 1 V ∧ (∀ i, i < n → (V i).oneCell' = true) ∧ ∀ i, i < n → WInts W (V i) (L i) := by
  rcases Deep.open_int_rows ht he hq ce cq h with ⟨hcs, _⟩ | ⟨a, len, cap, A, L, C, Z, hcs, _, hl, hm, _, hr⟩
  · simp only [List.cons.injEq, and_true] at hcs
    subst hcs
    exact ⟨0, fun _ => .int .i64 0, fun _ => [], Nat.zero_le _, .inl ⟨rfl, rfl⟩, fun i hi => by omega, fun i hi => by omega⟩
  · simp only [List.cons.injEq, and_true] at hcs
    subst hcs
    refine ⟨len, fun r => .slice (A r) (L r) (C r), fun r => (Z r).take (L r), Nat.le_trans hl (Nat.le_trans hm most_maxLen), .inr ⟨a, cap, rfl, hl, fun i hi => (hr i (by omega)).1⟩, fun _ _ => rfl, fun i hi => ?_⟩
    obtain ⟨_, h1, h2, h3, _, h4, h5⟩ := hr i (by omega)
    exact WInts.of_row h1 h2 h3 h4 fun a ha c hc => (h5 a ha).2 c hc

/-- The points of a flow, opened. -/
theorem open_points {t e s q : TypeId} {f0 f1 f2 : Field} {fuel : Nat} {v : Value} {x : DataW H × List MemPlace} (ht : P.underlying t = some (.slice e)) (he : P.underlying e = some (.struct #[f0, f1, f2])) (ce : P.cellsOf e = 3)
    (o0 : f0.offset = 0) (o1 : f1.offset = 1) (o2 : f2.offset = 2) (t0 : f0.type = q) (t1 : f1.type = q) (t2 : f2.type = s) (hs : P.underlying s = some (.slice q)) (hq : P.underlying q = some (.int .i64)) (cs : P.cellsOf s = 1) (cq : P.cellsOf q = 1)
    (h : DataW.trod enc P W 0 (fun _ => true) true fuel t [v] = some x) :
    ∃ (n : Nat) (V : Nat → Value) (X Y : Nat → Int) (U : Nat → Value) (L : Nat → List Int), n ≤ Most ∧ WSl W v n 3 V ∧ (∀ i, i < n → V (i * 3) = .int .i64 (X i)) ∧ (∀ i, i < n → V (i * 3 + 1) = .int .i64 (Y i)) ∧ (∀ i, i < n → V (i * 3 + 2) = U i) ∧
      (∀ i, i < n → (U i).oneCell' = true) ∧ ∀ i, i < n → WInts W (U i) (L i) := by
  rcases Deep.open_slice ht h with ⟨hcs, _⟩ | ⟨a, len, cap, m, n, D, Pl, hcs, _, hl, hm, hmm, _, hx⟩
  · simp only [List.cons.injEq, and_true] at hcs
    subst hcs
    exact ⟨0, fun _ => .int .i64 0, fun _ => 0, fun _ => 0, fun _ => .int .i64 0, fun _ => [], Nat.zero_le _, .inl ⟨rfl, rfl⟩, fun i hi => by omega, fun i hi => by omega, fun i hi => by omega, fun i hi => by omega, fun i hi => by omega⟩
  · simp only [List.cons.injEq, and_true] at hcs
    subst hcs
    simp only [if_true] at hmm
    have hmm' := hmm.symm
    subst hmm'
    have each : ∀ i, i < cap → ∃ y : Int × Int × Value × List Int, W.cell? (a.add (i * 3)) = some (.int .i64 y.1) ∧ W.cell? (a.add (i * 3 + 1)) = some (.int .i64 y.2.1) ∧ W.cell? (a.add (i * 3 + 2)) = some y.2.2.1 ∧ y.2.2.1.oneCell' = true ∧ WInts W y.2.2.1 y.2.2.2 := by
      intro i hi
      obtain ⟨cs', h1, h2⟩ := hx i hi
      rw [ce] at h1
      obtain ⟨_, hlen, hcell⟩ := World.cells?_some h1
      obtain ⟨xs, k, _, _, _, hxs, hf⟩ := DataW.trod_struct he h2
      match cs', hlen with
      | [u0, u1, u2], _ =>
      match xs, hxs with
      | [x0, x1, x2], _ =>
      have g0 := hf 0 f0 rfl
      have g1 := hf 1 f1 rfl
      have g2 := hf 2 f2 rfl
      rw [o0, t0, cq] at g0
      rw [o1, t1, cq] at g1
      rw [o2, t2, cs] at g2
      simp at g0 g1 g2
      obtain ⟨p0, e0, _⟩ := DataW.trod_int hq g0
      obtain ⟨p1, e1, _⟩ := DataW.trod_int hq g1
      obtain ⟨hone, l, hint⟩ := WInts.of_trod hs hq cq g2
      simp only [List.cons.injEq, and_true] at e0 e1
      subst e0; subst e1
      have c0 := hcell 0 (by omega)
      have c1 := hcell 1 (by omega)
      have c2 := hcell 2 (by omega)
      rw [Deep.add_add] at c0 c1 c2
      exact ⟨(p0, p1, u2, l), by simpa using c0, by simpa using c1, by simpa using c2, hone, hint⟩
    obtain ⟨y, hy⟩ := Deep.choose_lt each
    refine ⟨len, fun j => if j % 3 = 0 then .int .i64 (y (j / 3)).1 else if j % 3 = 1 then .int .i64 (y (j / 3)).2.1 else (y (j / 3)).2.2.1, fun i => (y i).1, fun i => (y i).2.1, fun i => (y i).2.2.1, fun i => (y i).2.2.2,
      Nat.le_trans hl (Nat.le_trans hm most_maxLen), .inr ⟨a, cap, rfl, hl, fun j hj => ?_⟩, fun i _ => ?_, fun i _ => ?_, fun i _ => ?_, fun i hi => (hy i (by omega)).2.2.2.1, fun i hi => (hy i (by omega)).2.2.2.2⟩
    · obtain ⟨c0, c1, c2, _⟩ := hy (j / 3) (by omega)
      by_cases m0 : j % 3 = 0
      · have e : j / 3 * 3 = j := by omega
        rw [e] at c0
        simp only [m0, if_true]; exact c0
      · by_cases m1 : j % 3 = 1
        · have e : j / 3 * 3 + 1 = j := by omega
          rw [e] at c1
          simp only [m0, m1, if_false, if_true]; exact c1
        · have e : j / 3 * 3 + 2 = j := by omega
          rw [e] at c2
          simp only [m0, m1, if_false]; exact c2
    · have m : i * 3 % 3 = 0 := by omega
      have d : i * 3 / 3 = i := by omega
      simp [m, d]
    · have m : (i * 3 + 1) % 3 = 1 := by omega
      have d : (i * 3 + 1) / 3 = i := by omega
      simp [m, d]
    · have m : (i * 3 + 2) % 3 = 2 := by omega
      have d : (i * 3 + 2) / 3 = i := by omega
      simp [m, d]
end
end Go.Ab

/-! The last step of a row: it answers true, and every argument reads as before. -/
namespace Go.Ab
open Go Go.RowKit Go.WideShapes Go.ChangeShapes
section
variable {H : Type} {enc : TypeId × Value → H} {P : Program}
theorem trodAll_stay {W W' : World} (hl : laidOutB P = true) (hb : Below W.heap.size W W') : ∀ (ts : List TypeId) {vs : List Value} {ds : List (DataW H)} {ps : List MemPlace}, (∀ t ∈ ts, P.readableRec t = true ∧ t < P.types.size) → (∀ x ∈ ps, x.block < W.heap.size) →
    DataW.TrodAll enc P W 0 (fun _ => true) true ts vs ds ps → DataW.TrodAll enc P W' 0 (fun b => decide (b < W.heap.size)) true ts vs ds ps
  | [], vs, ds, ps, _, _, h => by
    obtain ⟨rfl, rfl, rfl⟩ := trodAll_nil h
    exact rfl
  | t :: ts, vs, ds, ps, ht, hp, h => by
    obtain ⟨v, vs', d, ds', p, q, rfl, rfl, rfl, h1, h2⟩ := trodAll_cons h
    exact ⟨p, q, Below.trod hl (ht t (by simp)).1 (ht t (by simp)).2 h1 hb (fun x hx => hp x (by simp [hx])), trodAll_stay hl hb ts (fun u hu => ht u (by simp [hu])) (fun x hx => hp x (by simp [hx])) h2, rfl⟩

theorem post_true {f : Func} {s : ChangeSpec} {apart fresh handsOn : Bool} {W W' : World} {args : Array Value} {ds gs : List (DataW H)} {before : List MemPlace} {tb : TypeId} (hl : laidOutB P = true)
    (hW : DataW.Whole enc P f.params.toList s.vars apart W args.toList ds gs before) (hv : s.vars = []) (hfn : s.fn H ds = { results := [.lit (.bool true)], args := ds })
    (ht : ∀ t ∈ f.params.toList, P.readableRec t = true ∧ t < P.types.size) (hr : f.resultTypes = #[tb]) (htb : P.underlying tb = some .bool) (hb : Below W.heap.size W W') :
    s.post enc P f apart fresh handsOn false W args (.bool true) W' := by
  have hlt := hW.lt
  obtain ⟨p, q, hA, hV, rfl, hfz, hnd⟩ := id hW
  rw [hv] at hV
  obtain ⟨rfl, rfl⟩ := trodVars_none hV
  have hfn' : s.fn H (ds ++ []) = { results := [.lit (.bool true)], args := ds } := by rw [List.append_nil]; exact hfn
  refine ⟨ds, [], p ++ [], [], p, [], hW, ?_, ?_, ?_, World.keptBut_mono (fun x hx => ⟨hx, .inr (.inl (by simpa using hx))⟩) (hb.frame (· ∈ p ++ [])), fun h => by cases h⟩
  · rw [hfn', hr]
    exact trodAll_mk1 (shut_bool htb true)
  · rw [hfn']
    exact trodAll_stay hl hb _ ht (fun x hx => hlt x (by simpa using hx)) hA
  · rw [hfn', hv]
    exact rfl
end
end Go.Ab
