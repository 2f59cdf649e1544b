/- A shared part of the proofs of the Table statements: a verified evaluator, the code in parts, the functions walked. -/
import Derived.RangeFuncLeaves
import Derived.OrdersIn
import Derived.LoopNIn
import Derived.Deep.MidRow
import Derived.Laws.Strings
import Derived.Laws.Slices
import Derived.Laws.StructEq
import Derived.Laws.Tables
import Derived.TacticsIn
import Derived.Lib.Bytealg
import Derived.Scope
import Derived.Carry
import Derived.ProofKit
import Derived.LaidHandle
import Derived.LaidLaws
import Derived.Stop.Joined
import Derived.JoinedCond
import Derived.Deep.DeepHandedRow
import Derived.Test.YtghhphdkojjalaaGreatDoorRows
import Derived.Test.YtghhphdkojjalaaGreatDoor11
set_option linter.unusedVariables false
set_option linter.unusedSimpArgs false
set_option linter.unnecessarySimpa false
set_option linter.all false
namespace Go.Abs
open Go.RowKit Go.ChangeShapes Go.WideShapes
theorem liftedUpto{C:Checked}{T:Tab}(hT:T.Fits C.prog)(hl:laidOutB C.prog=true)(own:ownKnob C.prog.godebug=none){f:FuncId}{fn:Func}{s:ChangeSpec}{kc:(H:Type)→List (DataW H)→Bool}{L:List (String×DataW Unit)}{os:Os}(started:os.Started)
  {H:Type} {enc:TypeId×Value→H} {F:Stop.Interp} (hglob:∀W,laidMetH C.prog L W→GlobOk T (k0 W)) (noInit:C.prog.inits.idxOf? f=none) (hfn:C.prog.funcs[f]? =some fn) {bt:TypeId} (hres:fn.resultTypes= #[bt]) (hbt:C.prog.underlying bt=some .bool) (hvars:s.vars=[])
  (S:List TypeId) (hS:S.all (tyIn C.prog S)=true) (hp:fn.params.toList.all (fun t=>S.contains t&&C.prog.readableRec t&&decide (t<C.prog.types.size))=true)
  (hspec:∀ds:List (DataW H),ds.length=fn.params.toList.length→s.fn H ds={results:=[.lit (.bool true)],args:=ds})
  {B:DataW H→Nat} {N:Nat} (hB:BulkOk B) (hkB:∀ds:List (DataW H),kc H ds=true→(ds.map B).sum≤N)
  (hrun:∀xs:List V,xs.length=fn.params.toList.length→(∀(j:Nat) t x,fn.params.toList[j]? =some t→xs[j]? =some x→∃n,Shaped C.prog n t x)→V.bulks xs≤N→∃st',(run T).call f xs st0=some (.bool true,st'))
  (witness:∃(w:World) (tape:Tape) (i:Input),w.os=os∧(w.forCall tape i).Shaped C.prog∧i.vars=[]∧Input.okWide C.prog (w.forCall tape i) .any w.heap.size f i∧
   ({OpenSpec.ofChange s with cond:=some kc}:OpenSpec).preRow enc C.prog fn [] false L (w.forCall tape i).memory i.args∧({}:Assume).holds C.prog (lone (Frame.enter C.prog f i.args .normal) [] (w.forCall tape i))) {fresh handsOn:Bool}:
  ReturnsInHanded {} C os f .any (({OpenSpec.ofChange s with cond:=some kc}:OpenSpec).preRow enc C.prog fn [] false L) ((({OpenSpec.ofChange s with cond:=some kc}:OpenSpec).at F).post enc C.prog fn false fresh handsOn false):=by
 refine returnsInHanded_of_row (C:=C) (s:=({OpenSpec.ofChange s with cond:=some kc}:OpenSpec)) own started noInit hfn witness ?_
 intro W base args ds gs before hval hW0 _ hk _ hL _ _
 have hW:DataW.Whole enc C.prog fn.params.toList s.vars false W args.toList ds gs before:=hW0
 have hW':=hW
 obtain⟨p,q,hA,hV,rfl,hfz,hnd⟩:=hW
 have hpar:∀t∈fn.params.toList,t∈S∧C.prog.readableRec t=true∧t<C.prog.types.size:=fun t ht=>by
  have:=List.all_eq_true.1 hp t ht
  simp only[Bool.and_eq_true,decide_eq_true_eq,List.contains_iff_mem]at this
  exact⟨this.1.1,this.1.2,this.2⟩
 obtain⟨xs,hx,hlen,hdl,hsh,hbk⟩:=aq_1 hB hS (fun t ht=>(hpar t ht).1) (fun j t v a b=>hval j t v (by simpa using a) (by simpa using b)) hA
 obtain⟨rfl,rfl⟩:gs=[]∧q=[]:=by
  rw[hvars]at hV
  cases gs with
  |nil=>exact⟨rfl,hV⟩
  |cons g r=>exact absurd hV (by intro h;cases h)
 have hk2:=hk kc rfl
 rw[List.append_nil]at hk2
 obtain⟨st',hr⟩:=hrun xs hlen hsh (Nat.le_trans hbk (hkB ds hk2))
 obtain⟨n,hr⟩:=(T_4 T).call hr
 have hc:=aP_6 hT hr (hglob W hL) hx
 refine hc.mono fun e W' ⟨he,hb⟩=>⟨_,he,?_⟩
 have hpost:s.post enc C.prog fn false fresh handsOn false W args (.bool true) W':=by
  refine aC_ hl hres hbt hvars (fun t ht=>(hpar t ht).2) hW' ?_ hb
  rw[List.append_nil]
  exact hspec ds hdl
 exact hpost
end Go.Abs
