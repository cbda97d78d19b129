import Derived.Test.YtmaclibfncchgaaGreatDoorS51
set_option linter.all false
/- The kernel runs some calls and finds the answers that are kept. PRINTED by memofiles.py. -/
namespace Go.Proofs
open Go Go.Ab
set_option maxRecDepth 100000
theorem Tryz.m2_true : MemoTrue Tryz.prog Tryz.m2 := memo_true Tryz.mixed Tryz.table Tryz.O1_ok (n := 100000) (by kernel_rfl)
theorem Tryz.m4_true : MemoTrue Tryz.prog Tryz.m4 := memo_true Tryz.mixed Tryz.table Tryz.O1_ok (n := 100000) (by kernel_rfl)
end Go.Proofs
