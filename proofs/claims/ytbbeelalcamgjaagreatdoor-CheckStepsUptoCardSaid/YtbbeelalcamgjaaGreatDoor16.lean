/- A shared part of the proofs of the Check statements: a verified evaluator, the code in parts, the functions walked. -/
import Derived.Test.YtbbeelalcamgjaaGreatDoor15
set_option linter.unusedVariables false
set_option linter.unusedSimpArgs false
set_option linter.unnecessarySimpa false
set_option linter.all false
namespace Go.Proofs.YtbbeelalcamgjaaGreatDoor
open Go.Abs
set_option maxRecDepth 1000000
def chkL:List (Nat×V×V):=[(12,ba_6,(.list true none [])),(12,aW_8,(.list false none [(.agg [(.int .i64 86),(.int .i64 7)]),(.agg [(.int .i64 99),(.int .i64 6)]),(.agg [(.int .i64 110),(.int .i64 5)])])),(12,(.agg [(.list true (some true) []),(.list true (some true) []),(.list true (some true) [])]),(.list false none [(.agg [(.int .i64 0),(.int .i64 12)])]))]
theorem aZ_3(st:St):(evM tb (memoV chkL (memoL ((30,src1,ba_6)::(30,src2,aW_8)::(31,haS,haV)::(me5 ++(me4 ++(me3 ++(me2 ++(me1 ++meW)))))))) 2000).call 9 [] st=some (.bool true,st):=by rw[a_];kernel_rfl
end Go.Proofs.YtbbeelalcamgjaaGreatDoor
