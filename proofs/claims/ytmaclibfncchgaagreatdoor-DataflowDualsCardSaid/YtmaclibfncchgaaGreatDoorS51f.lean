import Derived.Test.YtmaclibfncchgaaGreatDoorTab
import Derived.Test.YtmaclibfncchgaaGreatDoorMemos
set_option linter.all false
/- The kernel runs some calls and finds the answers that are kept. PRINTED by memofiles.py. -/
namespace Go.Proofs
open Go Go.Ab
set_option maxRecDepth 100000
theorem Tryz.m27_true : MemoTrue Tryz.prog Tryz.m27 := memo_true Tryz.mixed Tryz.table noO_ok (n := 100000) (by kernel_rfl)
theorem Tryz.m28_true : MemoTrue Tryz.prog Tryz.m28 := memo_true Tryz.mixed Tryz.table noO_ok (n := 100000) (by kernel_rfl)
theorem Tryz.m29_true : MemoTrue Tryz.prog Tryz.m29 := memo_true Tryz.mixed Tryz.table noO_ok (n := 100000) (by kernel_rfl)
theorem Tryz.m30_true : MemoTrue Tryz.prog Tryz.m30 := memo_true Tryz.mixed Tryz.table noO_ok (n := 100000) (by kernel_rfl)
theorem Tryz.m31_true : MemoTrue Tryz.prog Tryz.m31 := memo_true Tryz.mixed Tryz.table noO_ok (n := 100000) (by kernel_rfl)
theorem Tryz.m32_true : MemoTrue Tryz.prog Tryz.m32 := memo_true Tryz.mixed Tryz.table noO_ok (n := 100000) (by kernel_rfl)
end Go.Proofs
