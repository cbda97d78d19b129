/-
  PROVED HERE: assessorlaw19.DataflowDuals returns true for every flow and two lists of sets, and each argument reads behind the call as it read before (the card DataflowDualsCardSaid).
  CONDITIONS: none on the arguments but those of the form (the reach of what is read); the two listed library tables read as the program's text lays them (tied). The other named variable may hold whatever it holds.
  HOW: the functions that the law reaches are walked over an abstract heap (texts EvA to EvE: a verified evaluator of the model's code; its rules for code with any arguments); the example that the law checks first (awake) is run by that evaluator in the kernel; the solver is shown to answer the least solution of the equations, the reversed flow's is its image under the exchange of entry and exit, and slices.Sort goes by the kit's own contract.
-/
import Derived.Test.YtmaclibfncchgaaGreatDoorDuals
import Derived.Test.YtmaclibfncchgaaGreatDoorEvE
import Derived.Test.YtmaclibfncchgaaGreatDoorCards
import Derived.Test.YtmaclibfncchgaaGreatDoorTie
import Derived.ProofKit
import Derived.OpenShut
import Derived.LaidMore
import Derived.Lay
import Derived.SevenTiedAt
import Derived.Stop.Joined
set_option linter.all false
/-! DataflowDuals: the row and the card. -/
namespace Go.Proofs.YtmaclibfncchgaaGreatDoor
open Go.ChangeShapes Go.WideShapes Go.ChangeAt Go.RowKit Go.Ab

theorem Tryz.own : ownKnob Tryz.prog.godebug = none := by kernel_rfl
theorem Tryz.laidOut : laidOutB Tryz.prog = true := by kernel_rfl

set_option maxRecDepth 100000 in
theorem duals_lifted (os : Os) (started : os.Started) (H : Type) (enc : TypeId × Value → H) :
    ReturnsInHanded {} Tryz.checked os 4 .any (fun w args => (Rows.dataflowDualsSpec.pre enc Tryz.prog Tryz.f4 Rows.dataflowDualsRow.domain false w args ∧ laidMetH Tryz.prog Rows.dataflowDualsRow.laid w) ∧ sizedMet enc Tryz.prog Tryz.f4 (OpenSpec.ofChange Rows.dataflowDualsSpec) false w args)
      (Rows.dataflowDualsSpec.post enc Tryz.prog Tryz.f4 false true false false) := by
  refine returnsInHanded_of_change_and (C := Tryz.checked) (X := fun w _ => laidMetH Tryz.prog Rows.dataflowDualsRow.laid w) (fun _ _ _ hh h => h.of_heap hh) Tryz.own started (by kernel_rfl) Tryz.func4
    (ChangeSpec.witness_shaped (enc := enc) (C := Tryz.checked) (os := os) (X := fun w _ => laidMetH Tryz.prog Rows.dataflowDualsRow.laid w) false (World.laidAll Tryz.prog os Rows.dataflowDualsRow.laid) #[.agg #[.slice none 0 0], .slice none 0 0, .slice none 0 0] 8 (World.laidAll_os _ _ _)
      (World.shaped_of_ZipB (by kernel_rfl) (by kernel_rfl)) (by kernel_rfl) (by kernel_rfl) (by kernel_rfl)
      (by rw [MakeChecks.laidMetH_plain _ _ _ (by kernel_rfl)]; exact laidMet_laidAll _ (by kernel_rfl) (by kernel_rfl))) ?_
  intro W base args ds gs before hval0 hW hc _ hL _
  have hval : ∀ (j : Nat) t v, Tryz.f4.params[j]? = some t → args[j]? = some v → Value.okWide Tryz.prog W .any base t v := hval0
  have hW' : DataW.Whole enc Tryz.prog Tryz.f4.params.toList [] false W args.toList ds gs before := hW
  have hW0 := hW'
  obtain ⟨p, q, hA0, hV, rfl, _, _⟩ := hW'
  have hA : DataW.TrodAll enc Tryz.prog W 0 (fun _ => true) true Tryz.f4.params.toList args.toList ds p := hA0
  rw [Tryz.params4] at hA hval
  obtain ⟨v0, v2, v3, d0, d2, d3, p0, p2, p3, rfl, rfl, rfl, ⟨k0, h0⟩, ⟨k2, h2⟩, ⟨k3, h3⟩⟩ := trodAll_three hA
  obtain ⟨cs, rfl, hcs⟩ := okWide_struct Tryz.underlying24 (hval 0 24 v0 rfl rfl)
  obtain ⟨g1, g2, g3, rfl⟩ := okWide_slice Tryz.underlying25 (hval 1 25 v2 rfl rfl)
  obtain ⟨e1, e2, e3, rfl⟩ := okWide_slice Tryz.underlying25 (hval 2 25 v3 rfl rfl)
  obtain ⟨xs, k, _, _, hlen, hxs, hf⟩ := DataW.trod_struct Tryz.underlying24 h0
  have c24 : Tryz.prog.cellsOf 24 = 1 := by kernel_rfl
  have c22 : Tryz.prog.cellsOf 22 = 1 := by kernel_rfl
  have c36 : Tryz.prog.cellsOf 36 = 1 := by kernel_rfl
  have c39 : Tryz.prog.cellsOf 39 = 3 := by kernel_rfl
  have c3 : Tryz.prog.cellsOf 3 = 1 := by kernel_rfl
  rw [c24] at hcs
  obtain ⟨pv, rfl⟩ : ∃ pv, cs = #[pv] := Array.size_eq_one_iff.1 hcs
  have hp0 := hf 0 _ rfl
  have hp : ∃ x, DataW.trod enc Tryz.prog W 0 (fun _ => true) true k 22 [pv] = some x := by
    cases hx : xs[0]? with
    | none => have := List.getElem?_eq_none_iff.1 hx; rw [hxs] at this; exact absurd this (by decide)
    | some x => exact ⟨x, by rw [← hx, ← hp0]; simp [Value.cells, c22]⟩
  obtain ⟨x, hp⟩ := hp
  have hone : pv.oneCell' = true := by
    rcases DataW.trod_slice Tryz.underlying22 hp with ⟨e, _⟩ | ⟨a, len, cap, _, _, _, _, e, _⟩
    · simp only [List.cons.injEq, and_true] at e; subst e; rfl
    · simp only [List.cons.injEq, and_true] at e; subst e; rfl
  obtain ⟨n, V, X, Y, U, L, q1, q2, q3, q4, q5, q6, q7⟩ := open_points Tryz.underlying22 Tryz.underlying39 c39 rfl rfl rfl rfl rfl rfl Tryz.underlying36 Tryz.underlying3 c36 c3 hp
  obtain ⟨n2, V2, L2, r1, r2, r3, r4⟩ := open_lists Tryz.underlying25 Tryz.underlying36 Tryz.underlying3 c36 c3 h2
  obtain ⟨n3, V3, L3, s1, s2, s3, s4⟩ := open_lists Tryz.underlying25 Tryz.underlying36 Tryz.underlying3 c36 c3 h3
  refine (Tryz.run4 q1 q2 q3 q4 q5 q6 q7 r1 r2 r3 r4 s1 s2 s3 s4 hone).mono fun e W' ⟨he, hb⟩ => ?_
  exact ⟨_, he, post_true Tryz.laidOut hW0 rfl rfl (fun t ht => by
    rw [Tryz.params4] at ht
    have hm : t ∈ [24, 25, 25] := ht
    have hall : ([24, 25, 25].all fun u => Tryz.prog.readableRec u && decide (u < Tryz.prog.types.size)) = true := by kernel_rfl
    have := (Bool.and_eq_true _ _).mp (List.all_eq_true.1 hall t hm)
    exact ⟨this.1, of_decide_eq_true this.2⟩) (tb := 4) (by kernel_rfl) Tryz.underlying4 hb⟩

theorem duals_holds : Rows.DataflowDualsSaid :=
  OpenClaim.holds_of_wide 4 Tryz.f4 rfl rfl rfl rfl rfl rfl rfl ⟨rfl, rfl, rfl, rfl, rfl⟩ rfl rfl rfl rfl rfl (by kernel_rfl) Tryz.func4 (by kernel_rfl)
    (of_decide_eq_true (by kernel_rfl)) (by unfold Func.isWrapper; first | (rw [if_pos (by decide +kernel)]; kernel_rfl) | (rw [if_neg (by decide +kernel)]; exact ⟨rfl, rfl⟩))
    (fun os started H enc _ => duals_lifted os started H enc)
theorem duals_card : Rows.DataflowDualsCardSaid :=
  Claim7.holds_tied_plain_at .later [] [.data, .pinned] true (true, "bab2ff0f35db6674be3000becdc1a5d45b2fab1d7197f5ff27323d714b90ba5d") false duals_holds (fun _ h => by cases h) (by kernel_rfl) (fun _ h => by cases h) dataflowDuals_row_tie rfl ⟨rfl, rfl⟩ (by kernel_rfl) rfl
    (fun f fn hf hfn => by
      obtain rfl : f = 4 := Option.some.inj ((show Tryz.prog.funcNamed "assessor/assessorlaw19.DataflowDuals" = some 4 by kernel_rfl).symm.trans hf) |>.symm
      obtain rfl : fn = Tryz.f4 := (Option.some.inj (Tryz.func4.symm.trans hfn)).symm
      exact ⟨by kernel_rfl, fun j t ht => by
        rw [Tryz.params4] at ht
        have hm : t ∈ [24, 25, 25] := by simpa using Array.mem_of_getElem? ht
        have hall : ([24, 25, 25].all fun u => !Tryz.prog.wantsStandIn u) = true := by kernel_rfl
        exact (show Tryz.prog.wantsStandIn t = false by simpa using List.all_eq_true.1 hall t hm)⟩)
    (by kernel_rfl)
end Go.Proofs.YtmaclibfncchgaaGreatDoor
