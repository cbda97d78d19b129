import Derived.Test.YtmaclibfncchgaaGreatDoorS52a
import Derived.Test.YtmaclibfncchgaaGreatDoorS52b
set_option linter.all false
/- What is known behind these runs. PRINTED by memofiles.py. -/
namespace Go.Proofs
open Go Go.Ab
noncomputable def Tryz.O2 : Oracle := addO 87 [Tryz.m4] (addO 86 [Tryz.m3] (addO 84 [Tryz.m2] (Tryz.O1)))
theorem Tryz.O2_ok : OracleOK Tryz.prog Tryz.O2 := addO_ok (f0 := 87) (.cons rfl Tryz.m4_true (.nil)) (addO_ok (f0 := 86) (.cons rfl Tryz.m3_true (.nil)) (addO_ok (f0 := 84) (.cons rfl Tryz.m2_true (.nil)) (Tryz.O1_ok)))
end Go.Proofs
