import Derived.Test.YtmaclibfncchgaaGreatDoorTab
import Derived.Test.YtmaclibfncchgaaGreatDoorMemos
set_option linter.all false
/- The kernel runs some calls and finds the answers that are kept. PRINTED by memofiles.py. -/
namespace Go.Proofs
open Go Go.Ab
set_option maxRecDepth 100000
theorem Tryz.m21_true : MemoTrue Tryz.prog Tryz.m21 := memo_true Tryz.mixed Tryz.table noO_ok (n := 100000) (by kernel_rfl)
theorem Tryz.m22_true : MemoTrue Tryz.prog Tryz.m22 := memo_true Tryz.mixed Tryz.table noO_ok (n := 100000) (by kernel_rfl)
theorem Tryz.m23_true : MemoTrue Tryz.prog Tryz.m23 := memo_true Tryz.mixed Tryz.table noO_ok (n := 100000) (by kernel_rfl)
theorem Tryz.m24_true : MemoTrue Tryz.prog Tryz.m24 := memo_true Tryz.mixed Tryz.table noO_ok (n := 100000) (by kernel_rfl)
theorem Tryz.m25_true : MemoTrue Tryz.prog Tryz.m25 := memo_true Tryz.mixed Tryz.table noO_ok (n := 100000) (by kernel_rfl)
theorem Tryz.m26_true : MemoTrue Tryz.prog Tryz.m26 := memo_true Tryz.mixed Tryz.table noO_ok (n := 100000) (by kernel_rfl)
end Go.Proofs
