/- A shared part of the proofs of the Table statements: a verified evaluator, the code in parts, the functions walked. -/
import Derived.Test.YtghhphdkojjalaaGreatDoor5
set_option linter.unusedVariables false
set_option linter.unusedSimpArgs false
set_option linter.unnecessarySimpa false
set_option linter.all false
namespace Go.Proofs.YtghhphdkojjalaaGreatDoor
open Go.Abs
set_option maxRecDepth 1000000
theorem bt_6(st:St):(evM tb (memoL [(69,src1,bv_9)]) 2000).call 38 [.str src1] st=some (by_3,st):=by rw[a_];kernel_rfl
theorem br_2(st:St):(evM tb (memoL [(69,src2,bx_0)]) 2000).call 38 [.str src2] st=some (bz_2,st):=by rw[a_];kernel_rfl
theorem bu_8(st:St):(evM tb (memoL [(69,src3,bA_0)]) 2000).call 38 [.str src3] st=some (bx_,st):=by rw[a_];kernel_rfl
end Go.Proofs.YtghhphdkojjalaaGreatDoor
