/- A shared part of the proofs of the Table statements: a verified evaluator, the code in parts, the functions walked. -/
import Derived.Test.YtghhphdkojjalaaGreatDoor4
set_option linter.unusedVariables false
set_option linter.unusedSimpArgs false
set_option linter.unnecessarySimpa false
set_option linter.all false
namespace Go.Proofs.YtghhphdkojjalaaGreatDoor
open Go.Abs
set_option maxRecDepth 1000000
theorem bs_7(st:St):(evM tb (memoL []) 2000).call 69 [.str src2] st=some (bx_0,st):=by rw[a_];kernel_rfl
theorem bq_7(st:St):(evM tb (memoL []) 2000).call 69 [.str src3] st=some (bA_0,st):=by rw[a_];kernel_rfl
end Go.Proofs.YtghhphdkojjalaaGreatDoor
