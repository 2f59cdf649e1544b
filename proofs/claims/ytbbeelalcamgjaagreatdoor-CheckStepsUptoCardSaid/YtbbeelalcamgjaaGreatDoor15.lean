/- A shared part of the proofs of the Check statements: a verified evaluator, the code in parts, the functions walked. -/
import Derived.Test.YtbbeelalcamgjaaGreatDoor14
set_option linter.unusedVariables false
set_option linter.unusedSimpArgs false
set_option linter.unnecessarySimpa false
set_option linter.all false
namespace Go.Proofs.YtbbeelalcamgjaaGreatDoor
open Go.Abs
set_option maxRecDepth 1000000
mutual
def veq:V→V→Bool
 | .bool a, .bool b=>a==b
 | .int k a, .int l b=>decide (k=l)&&a==b
 | .str a, .str b=>a==b
 | .list f n xs, .list f' n' ys=>f==f'&&n==n'&&veqs xs ys
 | .agg xs, .agg ys=>veqs xs ys
 |_,_=>false
def veqs:List V→List V→Bool
 |[],[]=>true
 |a::as',b::bs=>veq a b&&veqs as' bs
 |_,_=>false
end
mutual
theorem bb_1:∀a b,veq a b=true→a=b
 | .bool a, .bool b,h=>by simp only[veq,beq_iff_eq]at h;rw[h]
 | .int k a, .int l b,h=>by simp only[veq,Bool.and_eq_true,decide_eq_true_eq,beq_iff_eq]at h;rw[h.1,h.2]
 | .str a, .str b,h=>by simp only[veq,beq_iff_eq]at h;rw[h]
 | .list f n xs, .list f' n' ys,h=>by simp only[veq,Bool.and_eq_true,beq_iff_eq]at h;rw[h.1.1,h.1.2,aw_8 xs ys h.2]
 | .agg xs, .agg ys,h=>by simp only[veq]at h;rw[aw_8 xs ys h]
 | .nilp,x,h=>by cases x<;>simp[veq]at h
 | .ptr _ _,x,h=>by cases x<;>simp[veq]at h
 | .eptr _ _ _,x,h=>by cases x<;>simp[veq]at h
 | .iptr _,x,h=>by cases x<;>simp[veq]at h
 | .slice _ _ _ _,x,h=>by cases x<;>simp[veq]at h
 | .map _,x,h=>by cases x<;>simp[veq]at h
 | .nilmap,x,h=>by cases x<;>simp[veq]at h
 | .func _ _ _,x,h=>by cases x<;>simp[veq]at h
 | .nilfunc,x,h=>by cases x<;>simp[veq]at h
 | .iface _ _,x,h=>by cases x<;>simp[veq]at h
 | .niliface,x,h=>by cases x<;>simp[veq]at h
 | .tup _,x,h=>by cases x<;>simp[veq]at h
 | .bool _, .int _ _,h=>by simp[veq]at h
 | .bool _, .str _,h=>by simp[veq]at h
 | .bool _, .list _ _ _,h=>by simp[veq]at h
 | .bool _, .agg _,h=>by simp[veq]at h
 | .bool _, .nilp,h=>by simp[veq]at h
 | .bool _, .ptr _ _,h=>by simp[veq]at h
 | .bool _, .eptr _ _ _,h=>by simp[veq]at h
 | .bool _, .iptr _,h=>by simp[veq]at h
 | .bool _, .slice _ _ _ _,h=>by simp[veq]at h
 | .bool _, .map _,h=>by simp[veq]at h
 | .bool _, .nilmap,h=>by simp[veq]at h
 | .bool _, .func _ _ _,h=>by simp[veq]at h
 | .bool _, .nilfunc,h=>by simp[veq]at h
 | .bool _, .iface _ _,h=>by simp[veq]at h
 | .bool _, .niliface,h=>by simp[veq]at h
 | .bool _, .tup _,h=>by simp[veq]at h
 | .int _ _, .bool _,h=>by simp[veq]at h
 | .int _ _, .str _,h=>by simp[veq]at h
 | .int _ _, .list _ _ _,h=>by simp[veq]at h
 | .int _ _, .agg _,h=>by simp[veq]at h
 | .int _ _, .nilp,h=>by simp[veq]at h
 | .int _ _, .ptr _ _,h=>by simp[veq]at h
 | .int _ _, .eptr _ _ _,h=>by simp[veq]at h
 | .int _ _, .iptr _,h=>by simp[veq]at h
 | .int _ _, .slice _ _ _ _,h=>by simp[veq]at h
 | .int _ _, .map _,h=>by simp[veq]at h
 | .int _ _, .nilmap,h=>by simp[veq]at h
 | .int _ _, .func _ _ _,h=>by simp[veq]at h
 | .int _ _, .nilfunc,h=>by simp[veq]at h
 | .int _ _, .iface _ _,h=>by simp[veq]at h
 | .int _ _, .niliface,h=>by simp[veq]at h
 | .int _ _, .tup _,h=>by simp[veq]at h
 | .str _, .bool _,h=>by simp[veq]at h
 | .str _, .int _ _,h=>by simp[veq]at h
 | .str _, .list _ _ _,h=>by simp[veq]at h
 | .str _, .agg _,h=>by simp[veq]at h
 | .str _, .nilp,h=>by simp[veq]at h
 | .str _, .ptr _ _,h=>by simp[veq]at h
 | .str _, .eptr _ _ _,h=>by simp[veq]at h
 | .str _, .iptr _,h=>by simp[veq]at h
 | .str _, .slice _ _ _ _,h=>by simp[veq]at h
 | .str _, .map _,h=>by simp[veq]at h
 | .str _, .nilmap,h=>by simp[veq]at h
 | .str _, .func _ _ _,h=>by simp[veq]at h
 | .str _, .nilfunc,h=>by simp[veq]at h
 | .str _, .iface _ _,h=>by simp[veq]at h
 | .str _, .niliface,h=>by simp[veq]at h
 | .str _, .tup _,h=>by simp[veq]at h
 | .list _ _ _, .bool _,h=>by simp[veq]at h
 | .list _ _ _, .int _ _,h=>by simp[veq]at h
 | .list _ _ _, .str _,h=>by simp[veq]at h
 | .list _ _ _, .agg _,h=>by simp[veq]at h
 | .list _ _ _, .nilp,h=>by simp[veq]at h
 | .list _ _ _, .ptr _ _,h=>by simp[veq]at h
 | .list _ _ _, .eptr _ _ _,h=>by simp[veq]at h
 | .list _ _ _, .iptr _,h=>by simp[veq]at h
 | .list _ _ _, .slice _ _ _ _,h=>by simp[veq]at h
 | .list _ _ _, .map _,h=>by simp[veq]at h
 | .list _ _ _, .nilmap,h=>by simp[veq]at h
 | .list _ _ _, .func _ _ _,h=>by simp[veq]at h
 | .list _ _ _, .nilfunc,h=>by simp[veq]at h
 | .list _ _ _, .iface _ _,h=>by simp[veq]at h
 | .list _ _ _, .niliface,h=>by simp[veq]at h
 | .list _ _ _, .tup _,h=>by simp[veq]at h
 | .agg _, .bool _,h=>by simp[veq]at h
 | .agg _, .int _ _,h=>by simp[veq]at h
 | .agg _, .str _,h=>by simp[veq]at h
 | .agg _, .list _ _ _,h=>by simp[veq]at h
 | .agg _, .nilp,h=>by simp[veq]at h
 | .agg _, .ptr _ _,h=>by simp[veq]at h
 | .agg _, .eptr _ _ _,h=>by simp[veq]at h
 | .agg _, .iptr _,h=>by simp[veq]at h
 | .agg _, .slice _ _ _ _,h=>by simp[veq]at h
 | .agg _, .map _,h=>by simp[veq]at h
 | .agg _, .nilmap,h=>by simp[veq]at h
 | .agg _, .func _ _ _,h=>by simp[veq]at h
 | .agg _, .nilfunc,h=>by simp[veq]at h
 | .agg _, .iface _ _,h=>by simp[veq]at h
 | .agg _, .niliface,h=>by simp[veq]at h
 | .agg _, .tup _,h=>by simp[veq]at h
theorem aw_8:∀a b,veqs a b=true→a=b
 |[],[],_=>rfl
 |a::as',b::bs,h=>by simp only[veqs,Bool.and_eq_true]at h;rw[bb_1 a b h.1,aw_8 as' bs h.2]
 |[],_::_,h=>by simp[veqs]at h
 |_::_,[],h=>by simp[veqs]at h
end
def memoV(l:List (Nat×V×V))(M:FuncId→List V→Option V)(f:FuncId)(a:List V):Option V:=match a with
 |[x]=>match l.find? fun e=>e.1==f&&veq e.2.1 x with
  |some e=>some e.2.2
  |none=>M f [x]
 |a=>M f a
theorem aV_9{l:List (Nat×V×V)}{M:FuncId→List V→Option V}(hM:MemoOk tb M)(h:∀x∈l,∀st,(run tb).call x.1 [x.2.1] st=some (x.2.2,st)):MemoOk tb (memoV l M):=by
 intro f a v hv st
 unfold memoV at hv
 split at hv
 ·rename_i x
  split at hv
  ·rename_i e he
   have h1:=List.find?_some he
   simp only[Bool.and_eq_true]at h1
   have h2:=h e (List.mem_of_find?_eq_some he) st
   rw[eq_of_beq h1.1,bb_1 _ _ h1.2]at h2
   cases hv;exact h2
  ·exact hM _ _ _ hv st
 ·exact hM _ _ _ hv st
end Go.Proofs.YtbbeelalcamgjaaGreatDoor
