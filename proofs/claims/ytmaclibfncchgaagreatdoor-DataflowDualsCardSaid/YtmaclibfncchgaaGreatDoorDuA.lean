import Derived.Shelf.Sort.Plain
import Derived.Shelf.Slices.In.SortNone
import Derived.Test.YtmaclibfncchgaaGreatDoorChecked
import Derived.Test.YtmaclibfncchgaaGreatDoorFacts
import Derived.Lib.SortBridge
import Derived.Test.YtmaclibfncchgaaGreatDoorEvD
import Derived.Test.YtmaclibfncchgaaGreatDoorRefC
import Derived.Test.YtmaclibfncchgaaGreatDoorRefB
set_option linter.all false
/- the library's sort at this program: laid by the kit's tools lay-shelf.mjs and lay-plain.mjs -/
namespace Go.Proofs
open Go.Shelf
def Tryz.lays189_ren : Go.Shelf.Ren := ⟨fun | 189 => 15 | 125 => 39 | 257 => 38 | 128 => 59 | 129 => 60 | 294 => 50 | 295 => 51 | 296 => 52 | 297 => 53 | 298 => 54 | 299 => 55 | 216 => 56 | 300 => 57 | 301 => 58 | 328 => 74 | 329 => 75 | 330 => 76 | 331 => 77 | 332 => 78 | 215 => 79 | 343 => 111 | n => n, fun | 28 => 36 | 3 => 3 | 46 => 85 | 0 => 0 | 51 => 116 | 53 => 73 | 4 => 4 | 183 => 108 | 182 => 107 | 131 => 113 | 5 => 5 | 9 => 9 | 218 => 132 | 222 => 136 | 228 => 195 | 229 => 196 | n => n, fun | n => n⟩
theorem Tryz.lays189 : Go.Proofs.Lays.n189 Tryz.prog Tryz.lays189_ren := {
  mixed := by kernel_rfl
  f125 := Tryz.func39.trans (congrArg some (by kernel_rfl))
  f128 := Tryz.func59.trans (congrArg some (by kernel_rfl))
  f129 := Tryz.func60.trans (congrArg some (by kernel_rfl))
  f189 := Tryz.func15.trans (congrArg some (by kernel_rfl))
  f215 := Tryz.func79.trans (congrArg some (by kernel_rfl))
  f216 := Tryz.func56.trans (congrArg some (by kernel_rfl))
  f257 := Tryz.func38.trans (congrArg some (by kernel_rfl))
  f294 := Tryz.func50.trans (congrArg some (by kernel_rfl))
  f295 := Tryz.func51.trans (congrArg some (by kernel_rfl))
  f296 := Tryz.func52.trans (congrArg some (by kernel_rfl))
  f297 := Tryz.func53.trans (congrArg some (by kernel_rfl))
  f298 := Tryz.func54.trans (congrArg some (by kernel_rfl))
  f299 := Tryz.func55.trans (congrArg some (by kernel_rfl))
  f300 := Tryz.func57.trans (congrArg some (by kernel_rfl))
  f301 := Tryz.func58.trans (congrArg some (by kernel_rfl))
  f328 := Tryz.func74.trans (congrArg some (by kernel_rfl))
  f329 := Tryz.func75.trans (congrArg some (by kernel_rfl))
  f330 := Tryz.func76.trans (congrArg some (by kernel_rfl))
  f331 := Tryz.func77.trans (congrArg some (by kernel_rfl))
  f332 := Tryz.func78.trans (congrArg some (by kernel_rfl))
  f343 := Tryz.func111.trans (congrArg some (by kernel_rfl))
  t0 := Tryz.underlying0
  a0 := Tryz.isAgg0
  z0 := Tryz.sizeOf0
  v0 := Tryz.zeroValue0
  t3 := Tryz.underlying3
  a3 := Tryz.isAgg3
  z3 := Tryz.sizeOf3
  v3 := Tryz.zeroValue3
  t4 := Tryz.underlying4
  a4 := Tryz.isAgg4
  z4 := Tryz.sizeOf4
  v4 := Tryz.zeroValue4
  t5 := Tryz.underlying5
  a5 := Tryz.isAgg5
  z5 := Tryz.sizeOf5
  v5 := Tryz.zeroValue5
  t9 := Tryz.underlying9
  a9 := Tryz.isAgg9
  z9 := Tryz.sizeOf9
  v9 := Tryz.zeroValue9
  t28 := Tryz.underlying36
  a28 := Tryz.isAgg36
  z28 := Tryz.sizeOf36
  v28 := Tryz.zeroValue36
  t46 := Tryz.underlying85
  a46 := Tryz.isAgg85
  z46 := Tryz.sizeOf85
  v46 := Tryz.zeroValue85
  t51 := Tryz.underlying116
  a51 := Tryz.isAgg116
  z51 := Tryz.sizeOf116
  v51 := Tryz.zeroValue116
  t53 := Tryz.underlying73
  a53 := Tryz.isAgg73
  z53 := Tryz.sizeOf73
  v53 := Tryz.zeroValue73
  t131 := Tryz.underlying113
  a131 := Tryz.isAgg113
  z131 := Tryz.sizeOf113
  v131 := Tryz.zeroValue113
  t182 := Tryz.underlying107
  a182 := Tryz.isAgg107
  z182 := Tryz.sizeOf107
  v182 := Tryz.zeroValue107
  t183 := Tryz.underlying108
  a183 := Tryz.isAgg108
  z183 := Tryz.sizeOf108
  v183 := Tryz.zeroValue108
  t218 := Tryz.underlying132
  a218 := Tryz.isAgg132
  z218 := Tryz.sizeOf132
  v218 := Tryz.zeroValue132
  t222 := Tryz.underlying136
  a222 := Tryz.isAgg136
  z222 := Tryz.sizeOf136
  v222 := Tryz.zeroValue136
  t228 := Tryz.underlying195
  a228 := Tryz.isAgg195
  z228 := Tryz.sizeOf195
  v228 := Tryz.zeroValue195
  t229 := Tryz.underlying196
  a229 := Tryz.isAgg196
  z229 := Tryz.sizeOf196
  v229 := Tryz.zeroValue196 }
open Go.Sort Go.RowKit in
theorem Tryz.slices_Sort_int (blk off cap : Nat) (zs : List Int) (w : World) (hH : Holds (Value.int .i64) w blk off zs.toArray) (hblk : blk < w.heap.size) (hsz : zs.length < 4611686018427387904) :
    Calls Tryz.prog 15 #[.slice (some ⟨blk, off, none⟩) zs.length cap] w fun e w' =>
      e = .returned (.tuple #[]) ∧ ∃ n os, w' = grow (putRow (Value.int .i64) (Sort.ahead w n) blk off (zs.mergeSort fun x y => decide (x ≤ y)).toArray) os := Any.slices_Sort_int Tryz.lays189 blk off cap zs w hH hblk hsz
open Go.RowKit Go.Sort in
/-- .. and plain. (LAID: no walk: one application.) -/
theorem Tryz.slices_Sort_int_none (p : Option Addr) (cap : Nat) (w : World) :
    Calls Tryz.prog 15 #[.slice p 0 cap] w fun e w' => e = .returned (.tuple #[]) ∧ w' = w := Any.slices_Sort_int_none Tryz.lays189 p cap w
end Go.Proofs

/-! slices.Sort on a slice of the call's own. -/
namespace Go.Ab
open Go
variable [LoopTab]
/-- new blocks at the heap's end -/
theorem Step.more {A : AH} {ρ : Rho} {w : World} (h : HR A ρ w) (os : Array Obj) : Step A ρ w A ρ (Sort.grow w os) := by
  have hs : w.heap.size ≤ (Sort.grow w os).heap.size := by show _ ≤ (w.heap ++ os).size; simp
  have hb : ∀ b, b < w.heap.size → (Sort.grow w os).heap[b]? = w.heap[b]? := fun b hb => by
    show (w.heap ++ os)[b]? = _
    rw [Array.getElem?_append_left hb]
  refine ⟨fun _ _ h => h, fun _ _ => rfl, Nat.le_refl _, ⟨fun β x hx => ?_, h.inj, h.top⟩, hs, fun b hb' _ => hb b hb', fun _ β x l h1 h2 h3 _ => ⟨β, x, l, h1, h2, h3, rfl⟩, rfl, rfl, rfl⟩
  obtain ⟨b, base, sz, g1, g2⟩ := h.obj β x hx
  refine ⟨b, base, sz, g1, ?_⟩
  cases hseen : x.seen with
  | true => exact g2.congr (fun _ _ h => h) hs (hb b (g2.lt hseen))
  | false => cases x <;> first | exact trivial | cases hseen
end Go.Ab
namespace Go.Proofs
open Go Go.Ab
variable [LoopTab]
def srt (l : List Int) : List Int := l.mergeSort fun x y => decide (x ≤ y)
theorem srt_perm (l : List Int) : (srt l).Perm l := List.mergeSort_perm _ _
theorem srt_length (l : List Int) : (srt l).length = l.length := (srt_perm l).length_eq
theorem mem_srt {l : List Int} {x : Int} : x ∈ srt l ↔ x ∈ l := (srt_perm l).mem_iff
theorem srt_sorted (l : List Int) : (srt l).Pairwise (· ≤ ·) := by
  have := List.pairwise_mergeSort (le := fun (x y : Int) => decide (x ≤ y)) (fun a b c h1 h2 => by simp at *; omega) (fun a b => by simp; omega) l
  exact this.imp fun h => by simpa using h
theorem sort_spec (A : AH) (β n : Nat) (ex : Bool) (l : List Int) (hg : A.get β = some (.cells (l.map IV))) (hn : l.length = n) (hb : n ≤ 1000000) :
    FnW Tryz.prog 15 [.slice β 0 n n ex 1] A fun u A' => u = .tup [] ∧ A' = A.put β (.cells ((srt l).map IV)) := by
  refine ⟨.tup [], A.put β (.cells ((srt l).map IV)), ?_, rfl, rfl⟩
  intro v A' hv
  cases hv
  refine ⟨Nat.le_refl _, ⟨Tryz.f15, _, Tryz.func15, by decide, rfl⟩, fun ρ w argv hr hvs hwin => ?_⟩
  obtain ⟨av, rfl⟩ : ∃ av, argv = #[av] := by
    obtain ⟨l⟩ := argv
    cases l with
    | nil => exact hvs.elim
    | cons a l => cases l with
      | nil => exact ⟨a, rfl⟩
      | cons => exact hvs.2.elim
  have hva : VR ρ (.slice β 0 n n ex 1) av := hvs.1
  cases n with
  | zero =>
    obtain rfl : l = [] := List.length_eq_zero_iff.1 hn
    obtain ⟨a, c, rfl⟩ := VR.slc hva
    refine (Tryz.slices_Sort_int_none (some a) c w).mono ?_
    rintro e w' ⟨rfl, rfl⟩
    refine ⟨_, ρ, rfl, ⟨#[], rfl, trivial⟩, (Step.refl hr).cast (fun γ => ?_) rfl⟩
    rw [AH.get_put]
    by_cases h : γ = β
    · rw [if_pos h, h, hg, show srt [] = [] by simp [srt]]
    · rw [if_neg h]
  | succ n =>
    obtain ⟨b, base, sz, o', cap', g1, rfl, g3, g4, g5, g6, g7, g8⟩ := VR.slc1 hva (by omega)
    have hoff := g8 (.inl (by omega))
    rw [Nat.add_zero] at hoff
    subst hoff
    obtain ⟨k1, k2, k3, k4, _⟩ := hr.cells hg g1
    have hH : Sort.Holds (Value.int .i64) w b o' l.toArray := fun j hj => by
      have hj' : j < l.length := by simpa using hj
      obtain ⟨u, q1, q2, _⟩ := k4 j (IV (l[j])) (by simp [hj'])
      have hu : u = .int .i64 (l[j]) := q2
      subst hu
      refine ⟨?_, (k3 (o' + j) (by simp at k1; omega)).2⟩
      rw [q1]
      simp [hj']
    have hc := Tryz.slices_Sort_int b o' cap' l w hH k2 (by omega)
    rw [hn] at hc
    refine hc.mono ?_
    rintro e w' ⟨rfl, q, os, rfl⟩
    have hl : (srt l).length = l.toArray.size := by rw [srt_length]; simp
    have hw := Lib.sorted_world (Value.int .i64) w b o' q l.toArray (srt l) os hH hl
    have hw' : Sort.grow (Sort.putRow (Value.int .i64) (Sort.ahead w q) b o' (l.mergeSort fun x y => decide (x ≤ y)).toArray) os = Sort.grow ((w.drewN q).setCells b (o' + 0) ((srt l).map (Value.int .i64))) os := hw
    rw [hw']
    have s1 : Step A ρ w A ρ (w.drewN q) := Step.heap hr rfl ⟨rfl, rfl, rfl⟩
    have hov : overAt 0 ((srt l).map IV) (l.map IV) = some ((srt l).map IV) := by
      rw [overAt_eq, if_pos (by simp [srt_length])]
      simp [srt_length]
    have s2 := Step.set s1.hr hg g1 hov (vs := (srt l).map (Value.int .i64)) (VRs.map IV _ _ fun _ _ => rfl) (fun u hu => by
      obtain ⟨x, _, rfl⟩ := List.mem_map.1 hu
      rfl)
    exact ⟨_, ρ, rfl, ⟨#[], rfl, trivial⟩, s1.trans (s2.trans (Step.more s2.hr os))⟩
end Go.Proofs

/-! Duals: the reversed flow, its least sets; what a point knows is what its neighbours know. -/
namespace Go.Proofs
open Go Go.Ab
/-- 0 and 1 exchanged -/
def oth (a : Nat) : Nat := if a = 0 then 1 else if a = 1 then 0 else a
theorem oth_oth (a : Nat) : oth (oth a) = a := by unfold oth; (repeat' split) <;> omega
theorem oth_lt {a n : Nat} (hn : 2 ≤ n) (h : a < n) : oth a < n := by unfold oth; (repeat' split) <;> omega
theorem oth_inj {a b : Nat} (h : oth a = oth b) : a = b := by rw [← oth_oth a, h, oth_oth]
/-- a list with its first two exchanged -/
def swp {α : Type} (d : α) (l : List α) : List α := (l.set 0 (l.getD 1 d)).set 1 (l.getD 0 d)
theorem swp_length {α : Type} (d : α) (l : List α) : (swp d l).length = l.length := by simp [swp]
theorem swp_getD {α : Type} {d : α} {l : List α} (h : 2 ≤ l.length) (a : Nat) : (swp d l).getD a d = l.getD (oth a) d := by
  unfold swp oth
  by_cases h0 : a = 0
  · subst h0
    have : 0 < l.length := by omega
    simp [List.getD_eq_getElem?_getD, this]
  · by_cases h1 : a = 1
    · subst h1
      have : 1 < l.length := by omega
      simp [List.getD_eq_getElem?_getD, this]
    · have h0' : ¬ 0 = a := fun e => h0 e.symm
      have h1' : ¬ 1 = a := fun e => h1 e.symm
      simp [List.getD_eq_getElem?_getD, List.getElem?_set, h0, h1, h0', h1']
theorem lx_swp {ls : List (List Int)} (h : 2 ≤ ls.length) (a : Nat) : lx (swp [] ls) a = lx ls (oth a) := swp_getD h a
theorem GK_swp {ls : List (List Int)} (h : 2 ≤ ls.length) (a : Nat) : GK (swp [] ls) a = GK ls (oth a) := by rw [GK, GK, lx_swp h]
theorem SetsL_swp {ls : List (List Int)} {n : Nat} (hn : 2 ≤ n) (h : SetsL ls n) : SetsL (swp [] ls) n := by
  have hl := h.1
  refine ⟨by rw [swp_length]; exact hl, fun i hi => ?_⟩
  rw [swp_length] at hi
  rw [lx_swp (by omega)]
  exact h.2 _ (by rw [hl]; exact oth_lt hn (by omega))
theorem rows_swp {n : Nat} (hn : 2 ≤ n) (f : Nat → Nat) : swp [] (rows n f) = rows n fun a => f (oth a) := by
  refine List.ext_getElem? fun a => ?_
  by_cases ha : a < n
  · have e1 : (swp [] (rows n f))[a]? = some (lx (swp [] (rows n f)) a) := by
      rw [lx, List.getD_eq_getElem?_getD, List.getElem?_eq_getElem (by rw [swp_length, rows_length]; exact ha)]; rfl
    have e2 : (rows n fun a => f (oth a))[a]? = some (lx (rows n fun a => f (oth a)) a) := by
      rw [lx, List.getD_eq_getElem?_getD, List.getElem?_eq_getElem (by rw [rows_length]; exact ha)]; rfl
    rw [e1, e2, lx_swp (by rw [rows_length]; exact hn), lx_rows _ (oth_lt hn ha), lx_rows _ ha]
  · rw [List.getElem?_eq_none (by rw [swp_length, rows_length]; omega), List.getElem?_eq_none (by rw [rows_length]; omega)]

/-! the reversed flow -/
/-- what the points before i, and the first k of point i, give to point t -/
def part (nx : List (List Int)) (i k t : Nat) : List Int := (((lx nx i).take k).filter fun x => oth x.toNat = t).map fun _ => (oth i : Int)
def rev (nx : List (List Int)) : Nat → Nat → List Int
  | 0, _ => []
  | i + 1, t => rev nx i t ++ part nx i (lx nx i).length t
theorem part_zero (nx : List (List Int)) (i t : Nat) : part nx i 0 t = [] := by simp [part]
theorem part_succ {nx : List (List Int)} {i k t : Nat} (hk : k < (lx nx i).length) : part nx i (k + 1) t = part nx i k t ++ (if oth (ix (lx nx i) k).toNat = t then [(oth i : Int)] else []) := by
  unfold part
  rw [take_ix hk, List.filter_append, List.map_append]
  congr 1
  by_cases h : oth (ix (lx nx i) k).toNat = t <;> simp [h]
theorem part_length (nx : List (List Int)) (i k t : Nat) : (part nx i k t).length ≤ (lx nx i).length := by
  unfold part
  rw [List.length_map]
  exact Nat.le_trans (List.length_filter_le _ _) (by rw [List.length_take]; omega)
theorem rev_length {nx : List (List Int)} {m : Nat} (h : ∀ i, i < nx.length → (lx nx i).length ≤ m) (t : Nat) : ∀ i, i ≤ nx.length → (rev nx i t).length ≤ i * m
  | 0, _ => by simp [rev]
  | i + 1, hi => by
    rw [rev, List.length_append, Nat.add_mul]
    have h1 := rev_length h t i (by omega)
    have h2 := part_length nx i (lx nx i).length t
    have h3 := h i (by omega)
    omega
theorem mem_rev {nx : List (List Int)} {t : Nat} {y : Int} : ∀ {i : Nat}, y ∈ rev nx i t ↔ ∃ a, a < i ∧ y = (oth a : Int) ∧ ∃ x ∈ lx nx a, oth x.toNat = t
  | 0 => by simp [rev]
  | i + 1 => by
    rw [rev, List.mem_append, mem_rev]
    have hp : y ∈ part nx i (lx nx i).length t ↔ y = (oth i : Int) ∧ ∃ x ∈ lx nx i, oth x.toNat = t := by
      unfold part
      rw [List.take_length, List.mem_map]
      constructor
      · rintro ⟨x, hx, rfl⟩
        rw [List.mem_filter] at hx
        exact ⟨rfl, x, hx.1, by simpa using hx.2⟩
      · rintro ⟨rfl, x, hx, he⟩
        exact ⟨x, by rw [List.mem_filter]; exact ⟨hx, by simpa using he⟩, rfl⟩
    rw [hp]
    constructor
    · rintro (⟨a, h1, h2⟩ | h)
      · exact ⟨a, by omega, h2⟩
      · exact ⟨i, by omega, h⟩
    · rintro ⟨a, h1, h2⟩
      by_cases ha : a = i
      · subst ha; exact .inr h2
      · exact .inl ⟨a, by omega, h2⟩
def revF (nx : List (List Int)) : List (List Int) := (List.range nx.length).map (rev nx nx.length)
theorem revF_length (nx : List (List Int)) : (revF nx).length = nx.length := by simp [revF]
theorem lx_revF {nx : List (List Int)} {a : Nat} (h : a < nx.length) : lx (revF nx) a = rev nx nx.length a := by simp [lx, revF, h]
theorem ValidF.rev {nx : List (List Int)} (h : ValidF nx) : ValidF (revF nx) := by
  obtain ⟨h1, h2, h3, h4⟩ := h
  rw [ValidF, revF_length]
  refine ⟨h1, h2, ?_, fun i hi y hy => ?_⟩
  · rw [lx_revF (by omega), List.length_eq_zero_iff, List.eq_nil_iff_forall_not_mem]
    intro y hy
    obtain ⟨a, ha, _, x, hx, he⟩ := mem_rev.1 hy
    have := h4 a ha x hx
    have h0 : x.toNat = 0 := oth_inj (he.trans rfl)
    omega
  · rw [lx_revF hi] at hy
    obtain ⟨a, ha, rfl, x, hx, he⟩ := mem_rev.1 hy
    have hne : a ≠ 1 := fun e => by
      subst e
      rw [List.length_eq_zero_iff] at h3
      rw [h3] at hx; cases hx
    have := oth_lt h1 ha
    have h0 : oth a ≠ 0 := fun e => hne (oth_inj (e.trans rfl))
    omega
theorem edge_rev {nx : List (List Int)} (h : ValidF nx) {s d : Nat} (hs : s < nx.length) (hd : d < nx.length) : Edge true (revF nx) s d ↔ Edge false nx (oth s) (oth d) := by
  obtain ⟨h1, h2, h3, h4⟩ := h
  show (d : Int) ∈ lx (revF nx) s ↔ ((oth s : Nat) : Int) ∈ lx nx (oth d)
  rw [lx_revF hs, mem_rev]
  constructor
  · rintro ⟨a, ha, he, x, hx, hxs⟩
    have hda : d = oth a := by omega
    subst hda; subst hxs
    rw [oth_oth, oth_oth]
    have := h4 a ha x hx
    have e : ((x.toNat : Nat) : Int) = x := by omega
    rw [e]; exact hx
  · intro hm
    refine ⟨oth d, oth_lt h1 hd, by rw [oth_oth], _, hm, ?_⟩
    have e : ((oth s : Nat) : Int).toNat = oth s := by omega
    rw [e, oth_oth]

/-- Points renamed. -/
theorem Least.perm {n : Nat} {E E' : Nat → Nat → Prop} {G K X Y : Nat → Nat} {π : Nat → Nat} (hπ : ∀ a, π (π a) = a) (hl : ∀ a, a < n → π a < n) (hE : ∀ s d, s < n → d < n → (E' s d ↔ E (π s) (π d))) (h : Least n E G K X Y) :
    Least n E' (fun a => G (π a)) (fun a => K (π a)) (fun a => X (π a)) (fun a => Y (π a)) := by
  refine ⟨⟨fun a ha => h.1.1 _ (hl a ha), fun s d hs hd he => h.1.2 _ _ (hl s hs) (hl d hd) ((hE s d hs hd).1 he)⟩, fun X' Y' hs a ha => ?_⟩
  have := h.2 (fun a => X' (π a)) (fun a => Y' (π a)) ⟨fun b hb => by
    have := hs.1 (π b) (hl b hb)
    simpa [hπ] using this, fun s d h1 h2 he => hs.2 _ _ (hl s h1) (hl d h2) ((hE _ _ (hl s h1) (hl d h2)).2 (by rw [hπ, hπ]; exact he))⟩ (π a) (hl a ha)
  simpa [hπ] using this

/-! what is known in a point comes from its neighbours -/
noncomputable def orAll (l : List Nat) (f : Nat → Nat) : Nat := l.foldl (fun N s => N ||| f s) 0
theorem testBit_orAll0 (f : Nat → Nat) (k : Nat) : ∀ (l : List Nat) (N : Nat), (l.foldl (fun N s => N ||| f s) N).testBit k = true ↔ N.testBit k = true ∨ ∃ s ∈ l, (f s).testBit k = true
  | [], N => by simp
  | s :: l, N => by
    rw [List.foldl_cons, testBit_orAll0, Nat.testBit_or, Bool.or_eq_true]
    simp only [List.mem_cons, exists_eq_or_imp]
    rw [or_assoc]
theorem testBit_orAll (l : List Nat) (f : Nat → Nat) (k : Nat) : (orAll l f).testBit k = true ↔ ∃ s ∈ l, (f s).testBit k = true := by
  rw [orAll, testBit_orAll0]; simp
theorem Least.from {n : Nat} {E : Nat → Nat → Prop} {G K X Y : Nat → Nat} (h : Least n E G K X Y) {d k : Nat} (hd : d < n) (hk : (X d).testBit k = true) : ∃ s, s < n ∧ E s d ∧ (Y s).testBit k = true := by
  classical
  let X' : Nat → Nat := fun d => orAll (List.range n) fun s => if E s d then Y s else 0
  have hX : ∀ d k, (X' d).testBit k = true ↔ ∃ s, s < n ∧ E s d ∧ (Y s).testBit k = true := fun d k => by
    rw [testBit_orAll]
    constructor
    · rintro ⟨s, hs, hb⟩
      by_cases he : E s d
      · rw [if_pos he] at hb; exact ⟨s, by simpa using hs, he, hb⟩
      · rw [if_neg he] at hb; simp at hb
    · rintro ⟨s, hs, he, hb⟩
      exact ⟨s, by simpa using hs, by rw [if_pos he]; exact hb⟩
  have hsub : ∀ d, d < n → Sub (X' d) (X d) := fun d hd k hk => by
    obtain ⟨s, hs, he, hb⟩ := (hX d k).1 hk
    exact h.1.2 s d hs hd he k hb
  have := (h.2 X' (fun a => thr (X' a) (G a) (K a)) ⟨fun _ _ => rfl, fun s d hs hd he k hk => (hX d k).2 ⟨s, hs, he, by
    rw [h.1.1 s hs]
    exact thr_mono (hsub s hs) k hk⟩⟩ d hd).1 k hk
  exact (hX d k).1 this
end Go.Proofs

/-! slices.Equal, Other, slices.Clone. -/
namespace Go.Proofs
open Go Go.Ab
variable [LoopTab]
def EqInv (A0 : AH) (v w : AV) (l m : List Int) (k : Nat) (e : En) (A : AH) : Prop := ∃ i : Nat, k = l.length - i ∧ i ≤ l.length ∧ e.get 0 = v ∧ e.get 1 = w ∧ e.get 12 = IV l.length ∧ e.get 13 = IV i ∧ A = A0 ∧ ∀ j, j < i → ix l j = ix m j
theorem equal_spec (A : AH) (v w : AV) (l m : List Int) (h : IntSl A v l) (k : IntSl A w m) : FnW Tryz.prog 16 [v, w] A fun u A' => IsB u (l = m) ∧ A = A' := by
  refine FnW.body Tryz.func16 (by decide) rfl Tryz.ntmps16 ?_
  generalize hE : bindArgs _ 0 _ = E
  have a0 := (congrArg (fun e => En.get e 0) hE).symm
  simp [bindArgs, kept, En.get_bind] at a0
  have a1 := (congrArg (fun e => En.get e 1) hE).symm
  simp [bindArgs, kept, En.get_bind] at a1
  clear hE
  refine W.seq ?_
  (refine W.region (by rfl) ?_; (repeat (first | (refine OpsW.step rfl ?_; simp [opV]; done) | (refine OpsW.step rfl ?_; simp [opV]) | (refine OpsW.step ?_ ?_; (focus (simp [wantedA]; done)); simp [opV]) | (refine OpsW.un ?_ ?_; (focus (simp [wantedA]; done))))); (refine OpsW.nil ?_; try simp only [andThen, endBlock]))
  by_cases hlen : (l.length : Int) = m.length
  rotate_left
  · ((try simp only [andThen, endBlock, if_true]); repeat (first | with_reducible refine W.seq ?_ | with_reducible refine W.block ?_ | (refine W.region (by rfl) ?_; (repeat (first | (refine OpsW.step rfl ?_; simp [opV, a0, a1, IntSl.len h (P := Tryz.prog) Tryz.underlying36, IntSl.len k (P := Tryz.prog) Tryz.underlying36, hlen]; done) | (refine OpsW.step rfl ?_; simp [opV, a0, a1, IntSl.len h (P := Tryz.prog) Tryz.underlying36, IntSl.len k (P := Tryz.prog) Tryz.underlying36, hlen]) | (refine OpsW.step ?_ ?_; (focus (simp [wantedA, a0, a1, IntSl.len h (P := Tryz.prog) Tryz.underlying36, IntSl.len k (P := Tryz.prog) Tryz.underlying36, hlen]; done)); simp [opV, a0, a1, IntSl.len h (P := Tryz.prog) Tryz.underlying36, IntSl.len k (P := Tryz.prog) Tryz.underlying36, hlen]) | (refine OpsW.un ?_ ?_; (focus (simp [wantedA, a0, a1, IntSl.len h (P := Tryz.prog) Tryz.underlying36, IntSl.len k (P := Tryz.prog) Tryz.underlying36, hlen]; done))))); (refine OpsW.nil ?_; try simp only [andThen, endBlock]))))
    (refine W.cond true ?_ ?_; (focus (simp [hlen]; done)); simp only [if_true])
    ((try simp only [andThen, endBlock, if_true]); repeat (first | with_reducible refine W.seq ?_ | with_reducible refine W.block ?_ | (refine W.region (by rfl) ?_; (repeat (first | (refine OpsW.step rfl ?_; simp [opV]; done) | (refine OpsW.step rfl ?_; simp [opV]) | (refine OpsW.step ?_ ?_; (focus (simp [wantedA]; done)); simp [opV]) | (refine OpsW.un ?_ ?_; (focus (simp [wantedA]; done))))); (refine OpsW.nil ?_; try simp only [andThen, endBlock]))))
    (refine W.ret ?_; try simp only [andThen, endBlock])
    refine ⟨.inr rfl, [.bool false], by simp [Tryz.f16, resultsA, resultA], ?_⟩
    exact ⟨.no fun hq => hlen (by rw [hq]), rfl⟩
  ((try simp only [andThen, endBlock, if_true]); repeat (first | with_reducible refine W.seq ?_ | with_reducible refine W.block ?_ | (refine W.region (by rfl) ?_; (repeat (first | (refine OpsW.step rfl ?_; simp [opV, a0, a1, IntSl.len h (P := Tryz.prog) Tryz.underlying36, IntSl.len k (P := Tryz.prog) Tryz.underlying36]; done) | (refine OpsW.step rfl ?_; simp [opV, a0, a1, IntSl.len h (P := Tryz.prog) Tryz.underlying36, IntSl.len k (P := Tryz.prog) Tryz.underlying36]) | (refine OpsW.step ?_ ?_; (focus (simp [wantedA, a0, a1, IntSl.len h (P := Tryz.prog) Tryz.underlying36, IntSl.len k (P := Tryz.prog) Tryz.underlying36]; done)); simp [opV, a0, a1, IntSl.len h (P := Tryz.prog) Tryz.underlying36, IntSl.len k (P := Tryz.prog) Tryz.underlying36]) | (refine OpsW.un ?_ ?_; (focus (simp [wantedA, a0, a1, IntSl.len h (P := Tryz.prog) Tryz.underlying36, IntSl.len k (P := Tryz.prog) Tryz.underlying36]; done))))); (refine OpsW.nil ?_; try simp only [andThen, endBlock]))))
  (refine W.cond false ?_ ?_; (focus (simp [hlen]; done)); simp only [Bool.false_eq_true, if_false])
  (refine W.skip ?_; try simp only [andThen, endBlock])
  ((try simp only [andThen, endBlock, if_true]); repeat (first | with_reducible refine W.seq ?_ | with_reducible refine W.block ?_ | (refine W.region (by rfl) ?_; (repeat (first | (refine OpsW.step rfl ?_; simp [opV, a0, IntSl.len h (P := Tryz.prog) Tryz.underlying36]; done) | (refine OpsW.step rfl ?_; simp [opV, a0, IntSl.len h (P := Tryz.prog) Tryz.underlying36]) | (refine OpsW.step ?_ ?_; (focus (simp [wantedA, a0, IntSl.len h (P := Tryz.prog) Tryz.underlying36]; done)); simp [opV, a0, IntSl.len h (P := Tryz.prog) Tryz.underlying36]) | (refine OpsW.un ?_ ?_; (focus (simp [wantedA, a0, IntSl.len h (P := Tryz.prog) Tryz.underlying36]; done))))); (refine OpsW.nil ?_; try simp only [andThen, endBlock]))))
  refine W.loop ?_
  refine LW.induct (EqInv A v w l m) ?_ _ _ A ⟨0, rfl, Nat.zero_le _, by simp [a0], by simp [a1], by simp, by simp, rfl, by simp⟩
  rintro n e A1 ⟨i, rfl, hi, e0, e1, e12, e13, rfl, hs⟩
  ((try simp only [andThen, endBlock, if_true]); repeat (first | with_reducible refine W.seq ?_ | with_reducible refine W.block ?_ | (refine W.region (by rfl) ?_; (repeat (first | (refine OpsW.step rfl ?_; simp [opV, e12, e13]; done) | (refine OpsW.step rfl ?_; simp [opV, e12, e13]) | (refine OpsW.step ?_ ?_; (focus (simp [wantedA, e12, e13]; done)); simp [opV, e12, e13]) | (refine OpsW.un ?_ ?_; (focus (simp [wantedA, e12, e13]; done))))); (refine OpsW.nil ?_; try simp only [andThen, endBlock]))))
  by_cases hlt : i < l.length
  · have hlt2 : i < m.length := by omega
    (refine W.cond true ?_ ?_; (focus (simp [hlt]; done)); simp only [if_true])
    (refine W.skip ?_; try simp only [andThen, endBlock])
    by_cases hd : ix l i = ix m i
    · ((try simp only [andThen, endBlock, if_true]); repeat (first | with_reducible refine W.seq ?_ | with_reducible refine W.block ?_ | (refine W.region (by rfl) ?_; (repeat (first | (refine OpsW.step rfl ?_; simp [opV, e13]; done) | (refine OpsW.step rfl ?_; simp [opV, e13]) | (refine OpsW.step ?_ ?_; (focus (simp [wantedA, e13]; done)); simp [opV, e13]) | (refine OpsW.un ?_ ?_; (focus (simp [wantedA, e13]; done))))); (refine OpsW.nil ?_; try simp only [andThen, endBlock]))))
      (refine W.drawnS mixedP self0_ok [(0, 0), (1, 0), (2, 0), (3, 0), (4, 0), (5, 0), (6, 0), (7, 0), (8, 0)] (by rfl) (by kernel_rfl) ?_; (repeat (first | (refine RSW.step rfl rfl ?_; simp [stepV, cls, e0, e1, IntSl.idx h Tryz.underlying36 Tryz.sz3 hlt, IntSl.load h Tryz.sh3 hlt, IntSl.idx k Tryz.underlying36 Tryz.sz3 hlt2, IntSl.load k Tryz.sh3 hlt2, hd]) | (refine RSW.step rfl ?_ ?_; (focus (simp [wantedA, e0, e1, IntSl.idx h Tryz.underlying36 Tryz.sz3 hlt, IntSl.load h Tryz.sh3 hlt, IntSl.idx k Tryz.underlying36 Tryz.sz3 hlt2, IntSl.load k Tryz.sh3 hlt2, hd]; done)); simp [stepV, cls, e0, e1, IntSl.idx h Tryz.underlying36 Tryz.sz3 hlt, IntSl.load h Tryz.sh3 hlt, IntSl.idx k Tryz.underlying36 Tryz.sz3 hlt2, IntSl.load k Tryz.sh3 hlt2, hd]) | (refine RSW.un rfl ?_ ?_ ?_; (focus (simp [wantedA, e0, e1, IntSl.idx h Tryz.underlying36 Tryz.sz3 hlt, IntSl.load h Tryz.sh3 hlt, IntSl.idx k Tryz.underlying36 Tryz.sz3 hlt2, IntSl.load k Tryz.sh3 hlt2, hd]; done)); (focus (simp [cls]; done))))); refine RSW.nil ?_; try simp only [andThen, endBlock])
      (refine W.cond false ?_ ?_; (focus (simp; done)); simp only [Bool.false_eq_true, if_false])
      (refine W.skip ?_; try simp only [andThen, endBlock])
      ((try simp only [andThen, endBlock, if_true]); repeat (first | with_reducible refine W.seq ?_ | with_reducible refine W.block ?_ | (refine W.region (by rfl) ?_; (repeat (first | (refine OpsW.step rfl ?_; simp [opV, e13]; done) | (refine OpsW.step rfl ?_; simp [opV, e13]) | (refine OpsW.step ?_ ?_; (focus (simp [wantedA, e13]; done)); simp [opV, e13]) | (refine OpsW.un ?_ ?_; (focus (simp [wantedA, e13]; done))))); (refine OpsW.nil ?_; try simp only [andThen, endBlock]))))
      exact ⟨_, by omega, i + 1, rfl, by omega, by simp [e0], by simp [e1], by simp [e12], by simp [wrap_succ hlt h.2], rfl, fun j hj => by
        by_cases hji : j = i
        · subst hji; exact hd
        · exact hs j (by omega)⟩
    · ((try simp only [andThen, endBlock, if_true]); repeat (first | with_reducible refine W.seq ?_ | with_reducible refine W.block ?_ | (refine W.region (by rfl) ?_; (repeat (first | (refine OpsW.step rfl ?_; simp [opV, e13]; done) | (refine OpsW.step rfl ?_; simp [opV, e13]) | (refine OpsW.step ?_ ?_; (focus (simp [wantedA, e13]; done)); simp [opV, e13]) | (refine OpsW.un ?_ ?_; (focus (simp [wantedA, e13]; done))))); (refine OpsW.nil ?_; try simp only [andThen, endBlock]))))
      (refine W.drawnS mixedP self0_ok [(0, 0), (1, 0), (2, 0), (3, 0), (4, 0), (5, 0), (6, 0), (7, 0), (8, 0)] (by rfl) (by kernel_rfl) ?_; (repeat (first | (refine RSW.step rfl rfl ?_; simp [stepV, cls, e0, e1, IntSl.idx h Tryz.underlying36 Tryz.sz3 hlt, IntSl.load h Tryz.sh3 hlt, IntSl.idx k Tryz.underlying36 Tryz.sz3 hlt2, IntSl.load k Tryz.sh3 hlt2, hd]) | (refine RSW.step rfl ?_ ?_; (focus (simp [wantedA, e0, e1, IntSl.idx h Tryz.underlying36 Tryz.sz3 hlt, IntSl.load h Tryz.sh3 hlt, IntSl.idx k Tryz.underlying36 Tryz.sz3 hlt2, IntSl.load k Tryz.sh3 hlt2, hd]; done)); simp [stepV, cls, e0, e1, IntSl.idx h Tryz.underlying36 Tryz.sz3 hlt, IntSl.load h Tryz.sh3 hlt, IntSl.idx k Tryz.underlying36 Tryz.sz3 hlt2, IntSl.load k Tryz.sh3 hlt2, hd]) | (refine RSW.un rfl ?_ ?_ ?_; (focus (simp [wantedA, e0, e1, IntSl.idx h Tryz.underlying36 Tryz.sz3 hlt, IntSl.load h Tryz.sh3 hlt, IntSl.idx k Tryz.underlying36 Tryz.sz3 hlt2, IntSl.load k Tryz.sh3 hlt2, hd]; done)); (focus (simp [cls]; done))))); refine RSW.nil ?_; try simp only [andThen, endBlock])
      (refine W.cond true ?_ ?_; (focus (simp; done)); simp only [if_true])
      ((try simp only [andThen, endBlock, if_true]); repeat (first | with_reducible refine W.seq ?_ | with_reducible refine W.block ?_ | (refine W.region (by rfl) ?_; (repeat (first | (refine OpsW.step rfl ?_; simp [opV]; done) | (refine OpsW.step rfl ?_; simp [opV]) | (refine OpsW.step ?_ ?_; (focus (simp [wantedA]; done)); simp [opV]) | (refine OpsW.un ?_ ?_; (focus (simp [wantedA]; done))))); (refine OpsW.nil ?_; try simp only [andThen, endBlock]))))
      (refine W.ret ?_; try simp only [andThen, endBlock])
      refine ⟨.inr rfl, [.bool false], by simp [Tryz.f16, resultsA, resultA], ?_⟩
      exact ⟨.no fun hh => hd (by rw [hh]), rfl⟩
  · (refine W.cond false ?_ ?_; (focus (simp [hlt]; done)); simp only [Bool.false_eq_true, if_false])
    (refine W.exit ?_; try simp only [andThen, endBlock, if_true])
    ((try simp only [andThen, endBlock, if_true]); repeat (first | with_reducible refine W.seq ?_ | with_reducible refine W.block ?_ | (refine W.region (by rfl) ?_; (repeat (first | (refine OpsW.step rfl ?_; simp [opV]; done) | (refine OpsW.step rfl ?_; simp [opV]) | (refine OpsW.step ?_ ?_; (focus (simp [wantedA]; done)); simp [opV]) | (refine OpsW.un ?_ ?_; (focus (simp [wantedA]; done))))); (refine OpsW.nil ?_; try simp only [andThen, endBlock]))))
    (refine W.ret ?_; try simp only [andThen, endBlock])
    refine ⟨.inr rfl, [.bool true], by simp [Tryz.f16, resultsA, resultA], ?_⟩
    exact ⟨.yes (ints_ext (by omega) fun j hj => hs j (by omega)), rfl⟩

theorem other_spec (A : AH) (n : Nat) (hn : n ≤ 1000000) : FnW Tryz.prog 37 [IV n] A fun u A' => u = IV ((if n < 2 then 1 - n else n : Nat)) ∧ A' = A := by
  refine FnW.body Tryz.func37 (by decide) rfl Tryz.ntmps37 ?_
  generalize hE : bindArgs _ 0 _ = E
  have a0 := (congrArg (fun e => En.get e 0) hE).symm
  simp [bindArgs, kept, En.get_bind] at a0
  clear hE
  refine W.seq ?_
  (refine W.region (by rfl) ?_; (repeat (first | (refine OpsW.step rfl ?_; simp [opV]; done) | (refine OpsW.step rfl ?_; simp [opV]) | (refine OpsW.step ?_ ?_; (focus (simp [wantedA]; done)); simp [opV]) | (refine OpsW.un ?_ ?_; (focus (simp [wantedA]; done))))); (refine OpsW.nil ?_; try simp only [andThen, endBlock]))
  by_cases h2 : (n : Int) < 2
  · ((try simp only [andThen, endBlock, if_true]); repeat (first | with_reducible refine W.seq ?_ | with_reducible refine W.block ?_ | (refine W.region (by rfl) ?_; (repeat (first | (refine OpsW.step rfl ?_; simp [opV, a0, h2]; done) | (refine OpsW.step rfl ?_; simp [opV, a0, h2]) | (refine OpsW.step ?_ ?_; (focus (simp [wantedA, a0, h2]; done)); simp [opV, a0, h2]) | (refine OpsW.un ?_ ?_; (focus (simp [wantedA, a0, h2]; done))))); (refine OpsW.nil ?_; try simp only [andThen, endBlock]))))
    (refine W.cond true ?_ ?_; (focus (simp [h2]; done)); simp only [if_true])
    have hw : IntKind.i64.wrap (1 - (n : Int)) = ((1 - n : Nat) : Int) := by
      rw [wrap64_in (by omega) (by omega)]; omega
    ((try simp only [andThen, endBlock, if_true]); repeat (first | with_reducible refine W.seq ?_ | with_reducible refine W.block ?_ | (refine W.region (by rfl) ?_; (repeat (first | (refine OpsW.step rfl ?_; simp [opV, a0]; done) | (refine OpsW.step rfl ?_; simp [opV, a0]) | (refine OpsW.step ?_ ?_; (focus (simp [wantedA, a0]; done)); simp [opV, a0]) | (refine OpsW.un ?_ ?_; (focus (simp [wantedA, a0]; done))))); (refine OpsW.nil ?_; try simp only [andThen, endBlock]))))
    (refine W.ret ?_; try simp only [andThen, endBlock])
    refine ⟨.inr rfl, [IV ((1 - n : Nat) : Int)], by simp [Tryz.f37, resultsA, resultA, hw], ?_⟩
    rw [if_pos (by omega)]
    exact ⟨rfl, rfl⟩
  · ((try simp only [andThen, endBlock, if_true]); repeat (first | with_reducible refine W.seq ?_ | with_reducible refine W.block ?_ | (refine W.region (by rfl) ?_; (repeat (first | (refine OpsW.step rfl ?_; simp [opV, a0]; done) | (refine OpsW.step rfl ?_; simp [opV, a0]) | (refine OpsW.step ?_ ?_; (focus (simp [wantedA, a0]; done)); simp [opV, a0]) | (refine OpsW.un ?_ ?_; (focus (simp [wantedA, a0]; done))))); (refine OpsW.nil ?_; try simp only [andThen, endBlock]))))
    (refine W.cond false ?_ ?_; (focus (simp [h2]; done)); simp only [Bool.false_eq_true, if_false])
    (refine W.skip ?_; try simp only [andThen, endBlock])
    ((try simp only [andThen, endBlock, if_true]); repeat (first | with_reducible refine W.seq ?_ | with_reducible refine W.block ?_ | (refine W.region (by rfl) ?_; (repeat (first | (refine OpsW.step rfl ?_; simp [opV, a0]; done) | (refine OpsW.step rfl ?_; simp [opV, a0]) | (refine OpsW.step ?_ ?_; (focus (simp [wantedA, a0]; done)); simp [opV, a0]) | (refine OpsW.un ?_ ?_; (focus (simp [wantedA, a0]; done))))); (refine OpsW.nil ?_; try simp only [andThen, endBlock]))))
    (refine W.ret ?_; try simp only [andThen, endBlock])
    refine ⟨.inr rfl, [IV (n : Int)], by simp [Tryz.f37, resultsA, resultA], ?_⟩
    rw [if_neg (by omega)]
    exact ⟨rfl, rfl⟩

theorem binA_slice_nil {T el β off n cap z : Nat} {ex : Bool} (hu : Tryz.prog.underlying T = some (.slice el)) : binA Tryz.prog .eql T (.slice β off n cap ex z) .nilslice = some (.bool false) := by
  simp only [binA, eqBin, eqOp, hu]
theorem ofValue_nilslice : Ab.ofValue (.slice none 0 0) = .nilslice := rfl
/-- a slice that fills a block made since -/
def Whole (A0 A : AH) (u : AV) (n : Nat) (vs : List AV) : Prop := ∃ β ex, u = .slice β 0 n n ex 1 ∧ A.get β = some (.cells vs) ∧ A0.next ≤ β ∧ β < A.next
/-- Clone: a slice of its own with the same cells. -/
theorem clone_spec (A : AH) (v : AV) (n : Nat) (vs : List AV) (h : SlW A v 1 n vs) (hn : 0 < n) (hb : n ≤ 1000000) : FnW Tryz.prog 13 [v] A fun u A' => Whole A A' u n vs ∧ Ext A A' := by
  refine FnW.body Tryz.func13 (by decide) rfl Tryz.ntmps13 ?_
  generalize hE : bindArgs _ 0 _ = E
  have a0 := (congrArg (fun e => En.get e 0) hE).symm
  simp [bindArgs, kept, En.get_bind] at a0
  clear hE
  refine W.seq ?_
  (refine W.region (by rfl) ?_; (repeat (first | (refine OpsW.step rfl ?_; simp [opV]; done) | (refine OpsW.step rfl ?_; simp [opV]) | (refine OpsW.step ?_ ?_; (focus (simp [wantedA]; done)); simp [opV]) | (refine OpsW.un ?_ ?_; (focus (simp [wantedA]; done))))); (refine OpsW.nil ?_; try simp only [andThen, endBlock]))
  have hlen := h.length
  obtain ⟨β, off, cap, ex, cs, hv⟩ : ∃ β off cap ex z, v = .slice β off n cap ex z := by
    rcases h with ⟨_, rfl, _⟩ | ⟨β, off, cap, ex, cs, rfl, _⟩
    · omega
    · exact ⟨β, off, cap, ex, 1, rfl⟩
  have hB : Ab.Own A.next (A.push (.cells [])) (.slice A.next 0 0 0 true 1) 1 [] := .inr ⟨A.next, 0, true, rfl, get_box _, rfl, Nat.le_refl _, Nat.lt_succ_self _⟩
  have hsrc := srcCells_sl (h.ext (Ext.box A (.cells [])))
  obtain ⟨u, A', happ, hown, hext, _⟩ := append_own hB (Ext.box A _) hsrc (by omega) (by omega) (by simpa using hb)
  rw [hv] at a0 happ
  ((try simp only [andThen, endBlock, if_true]); repeat (first | with_reducible refine W.seq ?_ | with_reducible refine W.block ?_ | (refine W.region (by rfl) ?_; (repeat (first | (refine OpsW.step rfl ?_; simp [opV, a0, binA_slice_nil Tryz.underlying25]; done) | (refine OpsW.step rfl ?_; simp [opV, a0, binA_slice_nil Tryz.underlying25]) | (refine OpsW.step ?_ ?_; (focus (simp [wantedA, a0, binA_slice_nil Tryz.underlying25]; done)); simp [opV, a0, binA_slice_nil Tryz.underlying25]) | (refine OpsW.un ?_ ?_; (focus (simp [wantedA, a0, binA_slice_nil Tryz.underlying25]; done))))); (refine OpsW.nil ?_; try simp only [andThen, endBlock]))))
  (refine W.cond false ?_ ?_; (focus (simp; done)); simp only [Bool.false_eq_true, if_false])
  (refine W.skip ?_; try simp only [andThen, endBlock])
  ((try simp only [andThen, endBlock, if_true]); repeat (first | with_reducible refine W.seq ?_ | with_reducible refine W.block ?_ | (refine W.region (by rfl) ?_; (repeat (first | (refine OpsW.step rfl ?_; simp [opV, a0, allocL_slice0, opA_append, happ]; done) | (refine OpsW.step rfl ?_; simp [opV, a0, allocL_slice0, opA_append, happ]) | (refine OpsW.step ?_ ?_; (focus (simp [wantedA, a0, allocL_slice0, opA_append, happ]; done)); simp [opV, a0, allocL_slice0, opA_append, happ]) | (refine OpsW.un ?_ ?_; (focus (simp [wantedA, a0, allocL_slice0, opA_append, happ]; done))))); (refine OpsW.nil ?_; try simp only [andThen, endBlock]))))
  (refine W.ret ?_; try simp only [andThen, endBlock])
  refine ⟨.inr rfl, [u], by simp [Tryz.f13, resultsA, resultA], ?_⟩
  refine ⟨?_, hext⟩
  rcases hown with ⟨_, h0⟩ | ⟨γ, m, ex', rfl, q1, q2, q3, q4⟩
  · simp at h0; rw [h0] at hlen; simp at hlen; omega
  · simp at q1 q2
    obtain rfl : m = n := by omega
    exact ⟨γ, ex', rfl, q1, q3, q4⟩
end Go.Proofs
