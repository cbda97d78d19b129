import Derived.Test.YtmaclibfncchgaaGreatDoorS51a
import Derived.Test.YtmaclibfncchgaaGreatDoorS51b
import Derived.Test.YtmaclibfncchgaaGreatDoorS51c
import Derived.Test.YtmaclibfncchgaaGreatDoorS51d
import Derived.Test.YtmaclibfncchgaaGreatDoorS51e
import Derived.Test.YtmaclibfncchgaaGreatDoorS51f
set_option linter.all false
/- What is known behind these runs. PRINTED by memofiles.py. -/
namespace Go.Proofs
open Go Go.Ab
noncomputable def Tryz.O1 : Oracle := addO 82 [Tryz.m1] (addO 61 [Tryz.m0] (addO 49 [Tryz.m8, Tryz.m9, Tryz.m10, Tryz.m11, Tryz.m12, Tryz.m13, Tryz.m14, Tryz.m15, Tryz.m16, Tryz.m17, Tryz.m18, Tryz.m19, Tryz.m21, Tryz.m22, Tryz.m23, Tryz.m24, Tryz.m25, Tryz.m26, Tryz.m27, Tryz.m28, Tryz.m29, Tryz.m30, Tryz.m31, Tryz.m32] (noO)))
theorem Tryz.O1_ok : OracleOK Tryz.prog Tryz.O1 := addO_ok (f0 := 82) (.cons rfl Tryz.m1_true (.nil)) (addO_ok (f0 := 61) (.cons rfl Tryz.m0_true (.nil)) (addO_ok (f0 := 49) (.cons rfl Tryz.m8_true (.cons rfl Tryz.m9_true (.cons rfl Tryz.m10_true (.cons rfl Tryz.m11_true (.cons rfl Tryz.m12_true (.cons rfl Tryz.m13_true (.cons rfl Tryz.m14_true (.cons rfl Tryz.m15_true (.cons rfl Tryz.m16_true (.cons rfl Tryz.m17_true (.cons rfl Tryz.m18_true (.cons rfl Tryz.m19_true (.cons rfl Tryz.m21_true (.cons rfl Tryz.m22_true (.cons rfl Tryz.m23_true (.cons rfl Tryz.m24_true (.cons rfl Tryz.m25_true (.cons rfl Tryz.m26_true (.cons rfl Tryz.m27_true (.cons rfl Tryz.m28_true (.cons rfl Tryz.m29_true (.cons rfl Tryz.m30_true (.cons rfl Tryz.m31_true (.cons rfl Tryz.m32_true (.nil))))))))))))))))))))))))) (noO_ok)))
end Go.Proofs
