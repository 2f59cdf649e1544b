/- A shared part of the proofs of the Table statements: a verified evaluator, the code in parts, the functions walked. -/
import Derived.Test.YtghhphdkojjalaaGreatDoor7
set_option linter.unusedVariables false
set_option linter.unusedSimpArgs false
set_option linter.unnecessarySimpa false
set_option linter.all false
namespace Go.Proofs.YtghhphdkojjalaaGreatDoor
open Go.Abs
set_option maxRecDepth 1000000
theorem bn_9(st:St):(evM tb (memoL ((38,src1,by_3)::(38,src2,bz_2)::(38,src3,bx_)::(me2 ++(me1 ++me0)))) 2000).call 9 [] st=some (.bool true,st):=by rw[a_];kernel_rfl
end Go.Proofs.YtghhphdkojjalaaGreatDoor
