/- A shared part of the proofs of the Check statements: a verified evaluator, the code in parts, the functions walked. -/
import Derived.Test.YtbbeelalcamgjaaGreatDoor18
set_option linter.unusedVariables false
set_option linter.unusedSimpArgs false
set_option linter.unnecessarySimpa false
set_option linter.all false
namespace Go.Proofs.YtbbeelalcamgjaaGreatDoor
open Go.Abs
set_option maxRecDepth 1000000
theorem bf_3(st:St):(evM tb (memoL (me5 ++(me4 ++(me3 ++(me2 ++(me1 ++meW)))))) 2000).call 12 [(.agg [(.list true (some true) []),(.list true (some true) []),(.list true (some true) [])])] st=some ((.list false none [(.agg [(.int .i64 0),(.int .i64 12)])]),st):=by rw[a_];kernel_rfl
end Go.Proofs.YtbbeelalcamgjaaGreatDoor
