import Derived.Test.YtmaclibfncchgaaGreatDoorS53a
import Derived.Test.YtmaclibfncchgaaGreatDoorS53b
import Derived.Test.YtmaclibfncchgaaGreatDoorS53c
import Derived.Test.YtmaclibfncchgaaGreatDoorS53d
import Derived.Test.YtmaclibfncchgaaGreatDoorS53e
set_option linter.all false
/- What is known behind these runs. PRINTED by memofiles.py. -/
namespace Go.Proofs
open Go Go.Ab
noncomputable def Tryz.O3 : Oracle := addO 23 [Tryz.m6] (addO 22 [Tryz.m33] (addO 21 [Tryz.m20] (addO 20 [Tryz.m7] (addO 19 [Tryz.m5] (Tryz.O2)))))
theorem Tryz.O3_ok : OracleOK Tryz.prog Tryz.O3 := addO_ok (f0 := 23) (.cons rfl Tryz.m6_true (.nil)) (addO_ok (f0 := 22) (.cons rfl Tryz.m33_true (.nil)) (addO_ok (f0 := 21) (.cons rfl Tryz.m20_true (.nil)) (addO_ok (f0 := 20) (.cons rfl Tryz.m7_true (.nil)) (addO_ok (f0 := 19) (.cons rfl Tryz.m5_true (.nil)) (Tryz.O2_ok)))))
end Go.Proofs
