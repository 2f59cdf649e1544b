/- A shared part of the proofs of the Check statements: a verified evaluator, the code in parts, the functions walked. -/
import Derived.Test.YtbbeelalcamgjaaGreatDoor9
set_option linter.unusedVariables false
set_option linter.unusedSimpArgs false
set_option linter.unnecessarySimpa false
set_option linter.all false
namespace Go.Proofs.YtbbeelalcamgjaaGreatDoor
open Go.Abs
set_option maxRecDepth 1000000
theorem bh_2(st:St):(evM tb (memoL (tk1a ++tk1b)) 2000).call 129 [.str src1] st=some (bk_8,st):=by rw[a_];kernel_rfl
theorem be_0(st:St):(evM tb (memoL (tk2a ++tk2b)) 2000).call 129 [.str src2] st=some (bm_6,st):=by rw[a_];kernel_rfl
end Go.Proofs.YtbbeelalcamgjaaGreatDoor
