import Derived.Test.YtmaclibfncchgaaGreatDoorS54a
import Derived.Test.YtmaclibfncchgaaGreatDoorEvD
set_option linter.all false
/- What is known behind these runs. PRINTED by memofiles.py. -/
namespace Go.Proofs
open Go Go.Ab
noncomputable def Tryz.O4 : Oracle := addO 5 [Tryz.m34] (Tryz.O3)
theorem Tryz.O4_ok : OracleOK Tryz.prog Tryz.O4 := addO_ok (f0 := 5) (.cons rfl Tryz.m34_true (.nil)) (Tryz.O3_ok)
end Go.Proofs

namespace Go.Proofs
open Go Go.Ab
/-- The example answers true, on whatever heap. -/
theorem Tryz.awake (A : AH) : FnW Tryz.prog 5 [] A fun v A' => v = .bool true ∧ A' = ⟨A.next + 9912, A.t⟩ := by
  obtain ⟨r, h1, h2⟩ := Tryz.m34_true
  have hu : Tryz.m34.use [] A = some (.done (.bool true) ⟨A.next + 9912, A.t⟩) := rfl
  exact ⟨_, _, memo_sound h1 h2 hu, rfl, rfl⟩
end Go.Proofs
