import Derived.Test.YtmaclibfncchgaaGreatDoorTab
import Derived.Test.YtmaclibfncchgaaGreatDoorMemos
set_option linter.all false
/- The kernel runs some calls and finds the answers that are kept. PRINTED by memofiles.py. -/
namespace Go.Proofs
open Go Go.Ab
set_option maxRecDepth 100000
theorem Tryz.m14_true : MemoTrue Tryz.prog Tryz.m14 := memo_true Tryz.mixed Tryz.table noO_ok (n := 100000) (by kernel_rfl)
theorem Tryz.m15_true : MemoTrue Tryz.prog Tryz.m15 := memo_true Tryz.mixed Tryz.table noO_ok (n := 100000) (by kernel_rfl)
theorem Tryz.m16_true : MemoTrue Tryz.prog Tryz.m16 := memo_true Tryz.mixed Tryz.table noO_ok (n := 100000) (by kernel_rfl)
theorem Tryz.m17_true : MemoTrue Tryz.prog Tryz.m17 := memo_true Tryz.mixed Tryz.table noO_ok (n := 100000) (by kernel_rfl)
theorem Tryz.m18_true : MemoTrue Tryz.prog Tryz.m18 := memo_true Tryz.mixed Tryz.table noO_ok (n := 100000) (by kernel_rfl)
theorem Tryz.m19_true : MemoTrue Tryz.prog Tryz.m19 := memo_true Tryz.mixed Tryz.table noO_ok (n := 100000) (by kernel_rfl)
end Go.Proofs
