/- A shared part of the proofs of the Table statements: a verified evaluator, the code in parts, the functions walked. -/
import Derived.Test.YtghhphdkojjalaaGreatDoor6
set_option linter.unusedVariables false
set_option linter.unusedSimpArgs false
set_option linter.unnecessarySimpa false
set_option linter.all false
namespace Go.Proofs.YtghhphdkojjalaaGreatDoor
open Go.Abs
set_option maxRecDepth 1000000
def tx0:List UInt8:=[112,97,105,114]
def tx1:List UInt8:=[111,112,116]
def tx2:List UInt8:=[104,107]
def tx3:List UInt8:=[97]
def tx4:List UInt8:=[98]
def tx5:List UInt8:=[120]
def tx6:List UInt8:=[122,122]
def tx7:List UInt8:=[110,111,110,101]
def tx8:List UInt8:=[115,111,109,101]
def tx9:List UInt8:=[105,110,116]
def tx10:List UInt8:=[98,111,120,32,112,97,105,114]
def tx11:List UInt8:=[114,101,102,32,111,112,116]
def tx12:List UInt8:=[114,101,102,32,104,107]
def tx13:List UInt8:=[114,101,102,32,112,97,105,114]
def tx14:List UInt8:=[98,111,120,32,111,112,116]
def tx15:List UInt8:=[98,111,120,32,122,122]
def tx16:List UInt8:=[]
def me0:List (Nat×List UInt8×V):=[(99,tx0,(.bool false)),(99,tx1,(.bool false)),(99,tx2,(.bool false)),(99,tx3,(.bool false)),(99,tx4,(.bool false)),(99,tx5,(.bool false)),(99,tx6,(.bool false)),(99,tx7,(.bool false)),(99,tx8,(.bool false)),(99,tx9,(.bool true)),(99,tx10,(.bool false)),(99,tx11,(.bool false)),(99,tx12,(.bool false)),(99,tx13,(.bool false)),(99,tx14,(.bool false)),(99,tx15,(.bool false)),(99,tx16,(.bool false))]
theorem by_9(st:St):(me0.map fun x=>(evM tb (memoL []) 2000).call x.1 [.str x.2.1] st)=me0.map fun x=>some (x.2.2,st):=by rw[a_];kernel_rfl
def me1:List (Nat×List UInt8×V):=[(68,tx0,(.bool true)),(68,tx1,(.bool true)),(68,tx2,(.bool true)),(68,tx3,(.bool true)),(68,tx4,(.bool true)),(68,tx5,(.bool true)),(68,tx6,(.bool true)),(68,tx7,(.bool true)),(68,tx8,(.bool true)),(68,tx9,(.bool false)),(68,tx10,(.bool false)),(68,tx11,(.bool false)),(68,tx12,(.bool false)),(68,tx13,(.bool false)),(68,tx14,(.bool false)),(68,tx15,(.bool false)),(68,tx16,(.bool false)),(94,tx0,(.tup [(.int .i64 0),(.str tx0)])),(94,tx1,(.tup [(.int .i64 0),(.str tx1)])),(94,tx2,(.tup [(.int .i64 0),(.str tx2)])),(94,tx3,(.tup [(.int .i64 0),(.str tx3)])),(94,tx4,(.tup [(.int .i64 0),(.str tx4)])),(94,tx5,(.tup [(.int .i64 0),(.str tx5)])),(94,tx6,(.tup [(.int .i64 0),(.str tx6)])),(94,tx7,(.tup [(.int .i64 0),(.str tx7)])),(94,tx8,(.tup [(.int .i64 0),(.str tx8)])),(94,tx9,(.tup [(.int .i64 0),(.str tx9)])),(94,tx10,(.tup [(.int .i64 0),(.str tx10)])),(94,tx11,(.tup [(.int .i64 4),(.str tx1)])),(94,tx12,(.tup [(.int .i64 4),(.str tx2)])),(94,tx13,(.tup [(.int .i64 4),(.str tx0)])),(94,tx14,(.tup [(.int .i64 0),(.str tx14)])),(94,tx15,(.tup [(.int .i64 0),(.str tx15)])),(94,tx16,(.tup [(.int .i64 0),(.str [])]))]
theorem bA_1(st:St):(me1.map fun x=>(evM tb (memoL me0) 2000).call x.1 [.str x.2.1] st)=me1.map fun x=>some (x.2.2,st):=by rw[a_];kernel_rfl
def me2:List (Nat×List UInt8×V):=[(67,tx0,(.tup [(.str tx0),(.int .i64 0)])),(67,tx1,(.tup [(.str tx1),(.int .i64 0)])),(67,tx2,(.tup [(.str tx2),(.int .i64 0)])),(67,tx3,(.tup [(.str tx3),(.int .i64 0)])),(67,tx4,(.tup [(.str tx4),(.int .i64 0)])),(67,tx5,(.tup [(.str tx5),(.int .i64 0)])),(67,tx6,(.tup [(.str tx6),(.int .i64 0)])),(67,tx7,(.tup [(.str tx7),(.int .i64 0)])),(67,tx8,(.tup [(.str tx8),(.int .i64 0)])),(67,tx9,(.tup [(.str tx9),(.int .i64 0)])),(67,tx10,(.tup [(.str tx0),(.int .i64 1)])),(67,tx11,(.tup [(.str tx11),(.int .i64 0)])),(67,tx12,(.tup [(.str tx12),(.int .i64 0)])),(67,tx13,(.tup [(.str tx13),(.int .i64 0)])),(67,tx14,(.tup [(.str tx1),(.int .i64 1)])),(67,tx15,(.tup [(.str tx6),(.int .i64 1)])),(67,tx16,(.tup [(.str []),(.int .i64 0)])),(35,tx0,(.bool true)),(35,tx1,(.bool true)),(35,tx2,(.bool true)),(35,tx3,(.bool true)),(35,tx4,(.bool true)),(35,tx5,(.bool true)),(35,tx6,(.bool true)),(35,tx7,(.bool true)),(35,tx8,(.bool true)),(35,tx9,(.bool true)),(35,tx10,(.bool true)),(35,tx11,(.bool false)),(35,tx12,(.bool false)),(35,tx13,(.bool false)),(35,tx14,(.bool true)),(35,tx15,(.bool true)),(35,tx16,(.bool false)),(51,tx0,(.int .i64 2)),(51,tx1,(.int .i64 2)),(51,tx2,(.int .i64 2)),(51,tx3,(.int .i64 2)),(51,tx4,(.int .i64 2)),(51,tx5,(.int .i64 2)),(51,tx6,(.int .i64 2)),(51,tx7,(.int .i64 2)),(51,tx8,(.int .i64 2)),(51,tx9,(.int .i64 1)),(51,tx10,(.int .i64 3)),(51,tx11,(.int .i64 4)),(51,tx12,(.int .i64 4)),(51,tx13,(.int .i64 4)),(51,tx14,(.int .i64 3)),(51,tx15,(.int .i64 3)),(51,tx16,(.int .i64 0)),(49,tx0,(.tup [(.str tx0),(.bool true)])),(49,tx1,(.tup [(.str tx1),(.bool true)])),(49,tx2,(.tup [(.str tx2),(.bool true)])),(49,tx3,(.tup [(.str tx3),(.bool true)])),(49,tx4,(.tup [(.str tx4),(.bool true)])),(49,tx5,(.tup [(.str tx5),(.bool true)])),(49,tx6,(.tup [(.str tx6),(.bool true)])),(49,tx7,(.tup [(.str tx7),(.bool true)])),(49,tx8,(.tup [(.str tx8),(.bool true)])),(49,tx9,(.tup [(.str tx9),(.bool true)])),(49,tx10,(.tup [(.str tx0),(.bool true)])),(49,tx11,(.tup [(.str tx1),(.bool true)])),(49,tx12,(.tup [(.str tx2),(.bool true)])),(49,tx13,(.tup [(.str tx0),(.bool true)])),(49,tx14,(.tup [(.str tx1),(.bool true)])),(49,tx15,(.tup [(.str tx6),(.bool true)])),(49,tx16,(.tup [(.str []),(.bool false)]))]
theorem bx_2(st:St):(me2.map fun x=>(evM tb (memoL (me1 ++me0)) 2000).call x.1 [.str x.2.1] st)=me2.map fun x=>some (x.2.2,st):=by rw[a_];kernel_rfl
end Go.Proofs.YtghhphdkojjalaaGreatDoor
