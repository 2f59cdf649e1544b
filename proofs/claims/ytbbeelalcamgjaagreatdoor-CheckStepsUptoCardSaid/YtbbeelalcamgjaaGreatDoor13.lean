/- A shared part of the proofs of the Check statements: a verified evaluator, the code in parts, the functions walked. -/
import Derived.Test.YtbbeelalcamgjaaGreatDoor12
set_option linter.unusedVariables false
set_option linter.unusedSimpArgs false
set_option linter.unnecessarySimpa false
set_option linter.all false
namespace Go.Proofs.YtbbeelalcamgjaaGreatDoor
open Go.Abs
set_option maxRecDepth 1000000
theorem bg_0(st:St):(evM tb (memoL ((129,src2,bm_6)::meW)) 2000).call 30 [.str src2] st=some (aW_8,st):=by rw[a_];kernel_rfl
end Go.Proofs.YtbbeelalcamgjaaGreatDoor
