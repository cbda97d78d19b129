import Derived.Test.YtmaclibfncchgaaGreatDoorS53
set_option linter.all false
/- The kernel runs some calls and finds the answers that are kept. PRINTED by memofiles.py. -/
namespace Go.Proofs
open Go Go.Ab
set_option maxRecDepth 100000
theorem Tryz.m34_true : MemoTrue Tryz.prog Tryz.m34 := memo_true Tryz.mixed Tryz.table Tryz.O3_ok (n := 100000) (by kernel_rfl)
end Go.Proofs
