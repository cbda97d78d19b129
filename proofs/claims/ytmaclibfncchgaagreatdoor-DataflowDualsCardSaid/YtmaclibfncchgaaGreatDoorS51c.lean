import Derived.Test.YtmaclibfncchgaaGreatDoorTab
import Derived.Test.YtmaclibfncchgaaGreatDoorMemos
set_option linter.all false
/- The kernel runs some calls and finds the answers that are kept. PRINTED by memofiles.py. -/
namespace Go.Proofs
open Go Go.Ab
set_option maxRecDepth 100000
theorem Tryz.m8_true : MemoTrue Tryz.prog Tryz.m8 := memo_true Tryz.mixed Tryz.table noO_ok (n := 100000) (by kernel_rfl)
theorem Tryz.m9_true : MemoTrue Tryz.prog Tryz.m9 := memo_true Tryz.mixed Tryz.table noO_ok (n := 100000) (by kernel_rfl)
theorem Tryz.m10_true : MemoTrue Tryz.prog Tryz.m10 := memo_true Tryz.mixed Tryz.table noO_ok (n := 100000) (by kernel_rfl)
theorem Tryz.m11_true : MemoTrue Tryz.prog Tryz.m11 := memo_true Tryz.mixed Tryz.table noO_ok (n := 100000) (by kernel_rfl)
theorem Tryz.m12_true : MemoTrue Tryz.prog Tryz.m12 := memo_true Tryz.mixed Tryz.table noO_ok (n := 100000) (by kernel_rfl)
theorem Tryz.m13_true : MemoTrue Tryz.prog Tryz.m13 := memo_true Tryz.mixed Tryz.table noO_ok (n := 100000) (by kernel_rfl)
end Go.Proofs
