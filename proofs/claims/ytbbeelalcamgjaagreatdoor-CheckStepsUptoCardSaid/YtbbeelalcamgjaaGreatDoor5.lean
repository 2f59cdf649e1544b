/- A shared part of the proofs of the Check statements: a verified evaluator, the code in parts, the functions walked. -/
import Derived.Test.YtbbeelalcamgjaaGreatDoor4
set_option linter.unusedVariables false
set_option linter.unusedSimpArgs false
set_option linter.unnecessarySimpa false
set_option linter.all false
namespace Go.Proofs.YtbbeelalcamgjaaGreatDoor
open Go.Abs
set_option maxRecDepth 1000000
def meW:List (Nat×List UInt8×V):=[(161,[115,116,114,117,99,116],(.bool true)),(161,[104,107],(.bool false)),(161,[104,111,111,107],(.bool true)),(161,[97],(.bool false)),(161,[98,111,120],(.bool true)),(161,[105,110,116],(.bool true)),(161,[102,110],(.bool true)),(161,[109,97,105,110],(.bool false)),(161,[108,101,116],(.bool true)),(161,[120],(.bool false)),(161,[104],(.bool false)),(161,[98],(.bool false)),(161,[98,48],(.bool false)),(161,[110,101,119],(.bool true)),(161,[111,117,116],(.bool true)),(161,[114,101,116,117,114,110],(.bool true)),(161,[117,115,101],(.bool true)),(161,[103,111,116,111],(.bool true)),(161,[98,49],(.bool false)),(161,[98,111,120,32,105,110,116],(.bool false)),(161,[],(.bool false)),(161,[122,122],(.bool false))]
theorem bk_4(st:St):(meW.map fun x=>(evM tb (memoL []) 2000).call x.1 [.str x.2.1] st)=meW.map fun x=>some (x.2.2,st):=by rw[a_];kernel_rfl
end Go.Proofs.YtbbeelalcamgjaaGreatDoor
