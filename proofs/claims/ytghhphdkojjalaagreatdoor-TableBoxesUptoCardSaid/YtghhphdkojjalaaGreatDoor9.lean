/- A shared part of the proofs of the Table statements: a verified evaluator, the code in parts, the functions walked. -/
import Derived.Test.YtghhphdkojjalaaGreatDoor8
set_option linter.unusedVariables false
set_option linter.unusedSimpArgs false
set_option linter.unnecessarySimpa false
set_option linter.all false
namespace Go.Proofs.YtghhphdkojjalaaGreatDoor
open Go.Abs
set_option maxRecDepth 1000000
theorem bo_5:MemoOk tb (memoL []):=V_8 (fun x hx=>by cases hx)
theorem be_7{s:List UInt8}{l v:V}(h1:∀st,(evM tb (memoL []) 2000).call 69 [.str s] st=some (l,st))(h2:∀st,(evM tb (memoL [(69,s,l)]) 2000).call 38 [.str s] st=some (v,st))(st:St):(run tb).call 38 [.str s] st=some (v,st):=by
 refine ad_ (V_8 fun x hx st=> ?_) (h2 st)
 rw[List.mem_singleton.1 hx]
 exact ad_ bo_5 (h1 st)
theorem br_5{l:List (Nat×List UInt8×V)}{M:FuncId→List V→Option V}(hM:MemoOk tb M)(h:∀st,(l.map fun x=>(evM tb M 2000).call x.1 [.str x.2.1] st)=l.map fun x=>some (x.2.2,st)):∀x∈l,∀st,(run tb).call x.1 [.str x.2.1] st=some (x.2.2,st):=fun x hx st=>ad_ hM (List.map_inj_left.1 (h st) x hx)
theorem ba_2{l l':List (Nat×List UInt8×V)}(h:∀x∈l,∀st,(run tb).call x.1 [.str x.2.1] st=some (x.2.2,st))(h':∀x∈l',∀st,(run tb).call x.1 [.str x.2.1] st=some (x.2.2,st)):∀x∈l ++l',∀st,(run tb).call x.1 [.str x.2.1] st=some (x.2.2,st):=fun x hx=>(List.mem_append.1 hx).elim (h x) (h' x)
theorem ba_6{l:List (Nat×List UInt8×V)}{f:Nat}{s:List UInt8}{v:V}(h:∀st,(run tb).call f [.str s] st=some (v,st))(h':∀x∈l,∀st,(run tb).call x.1 [.str x.2.1] st=some (x.2.2,st)):∀x∈(f,s,v)::l,∀st,(run tb).call x.1 [.str x.2.1] st=some (x.2.2,st):=fun x hx=>by
 rcases List.mem_cons.1 hx with rfl|hx
 ·exact h
 ·exact h' x hx
theorem O_3(st:St):(run tb).call 9 [] st=some (.bool true,st):=by
 have m0:=br_5 bo_5 by_9
 have m1:=br_5 (V_8 m0) bA_1
 have m2:=br_5 (V_8 (ba_2 m1 m0)) bx_2
 exact ad_ (V_8 (ba_6 (be_7 bv_0 bt_6) (ba_6 (be_7 bs_7 br_2) (ba_6 (be_7 bq_7 bu_8) (ba_2 m2 (ba_2 m1 m0)))))) (bn_9 st)
end Go.Proofs.YtghhphdkojjalaaGreatDoor
namespace Go.Proofs.YtghhphdkojjalaaGreatDoor
open Go.Abs
set_option maxRecDepth 1000000
theorem ld2{st:St}{a:V}:evLoad tb st 2 a=B_2 st a:=by rw[a_];kernel_rfl
theorem und2:tb.und 2=some (.int .i64):=by rw[a_];kernel_rfl
theorem ld3{st:St}{a:V}:evLoad tb st 3 a=B_2 st a:=by rw[a_];kernel_rfl
theorem sr3{st:St}{a v:V}:evStore tb st 3 a v=storeN 1 st a v:=by rw[a_];kernel_rfl
theorem und3:tb.und 3=some (.int .i64):=by rw[a_];kernel_rfl
theorem ld4{st:St}{a:V}:evLoad tb st 4 a=B_2 st a:=by rw[a_];kernel_rfl
theorem sr4{st:St}{a v:V}:evStore tb st 4 a v=storeN 1 st a v:=by rw[a_];kernel_rfl
theorem und4:tb.und 4=some .bool:=by rw[a_];kernel_rfl
theorem ld9{st:St}{a:V}:evLoad tb st 9 a=B_2 st a:=by rw[a_];kernel_rfl
theorem und9:tb.und 9=some .string:=by rw[a_];kernel_rfl
theorem ln9{st:St}{s:List UInt8}:lenV tb 9 st (.str s)=some (.int .i64 (s.length:Nat)):=by rw[a_];kernel_rfl
theorem ix9{s:List UInt8}{k:IntKind}{i:Int}:evIndex tb 9 (.str s) (.int k i)=strIx s i:=by rw[a_];kernel_rfl
theorem ld22{st:St}{a:V}:evLoad tb st 22 a=B_2 st a:=by rw[a_];kernel_rfl
theorem T_:tb.und 22=some (.slice 37):=by rw[a_];kernel_rfl
theorem ia22{fl:Bool}{nl:Option Bool}{xs:List V}{k:IntKind}{i:Int}:evIndexAddr tb 22 (.list fl nl xs) (.int k i)=idxL 5 xs i:=by rw[a_];kernel_rfl
theorem ib22{r s o l:Nat}{k:IntKind}{i:Int}:evIndexAddr tb 22 (.slice r s o l) (.int k i)=idxS 5 r s o l i:=by rw[a_];kernel_rfl
theorem ln22{st:St}{fl:Bool}{nl:Option Bool}{xs:List V}:lenV tb 22 st (.list fl nl xs)=some (.int .i64 (xs.length:Nat)):=by rw[a_];kernel_rfl
theorem lo22{st:St}{r s o l:Nat}:lenV tb 22 st (.slice r s o l)=some (.int .i64 (l:Nat)):=by rw[a_];kernel_rfl
theorem ap22{st:St}{sp:Bool}{x y:V}:evAppend tb st 22 sp x y=appV 5 56 st sp x y:=by rw[a_];kernel_rfl
theorem bs22{fr:Fr}{st:St}{l:Nat}{ps:Array (Nat×Operand)}:k_3 tb fr st (.buildSlice 22 l ps)=bsV l 5 (.agg [(.int .i64 0),(.str []),(.bool false),(.bool false),(.list true (some true) [])]) (ps.toList.map (·.1)) st (evArgs tb fr (ps.toList.map (·.2))):=by rw[a_];kernel_rfl
theorem ld23{st:St}{a:V}:evLoad tb st 23 a=B_2 st a:=by rw[a_];kernel_rfl
theorem T_0:tb.und 23=some (.slice 45):=by rw[a_];kernel_rfl
theorem ia23{fl:Bool}{nl:Option Bool}{xs:List V}{k:IntKind}{i:Int}:evIndexAddr tb 23 (.list fl nl xs) (.int k i)=idxL 3 xs i:=by rw[a_];kernel_rfl
theorem ib23{r s o l:Nat}{k:IntKind}{i:Int}:evIndexAddr tb 23 (.slice r s o l) (.int k i)=idxS 3 r s o l i:=by rw[a_];kernel_rfl
theorem ln23{st:St}{fl:Bool}{nl:Option Bool}{xs:List V}:lenV tb 23 st (.list fl nl xs)=some (.int .i64 (xs.length:Nat)):=by rw[a_];kernel_rfl
theorem lo23{st:St}{r s o l:Nat}:lenV tb 23 st (.slice r s o l)=some (.int .i64 (l:Nat)):=by rw[a_];kernel_rfl
theorem ap23{st:St}{sp:Bool}{x y:V}:evAppend tb st 23 sp x y=appV 3 48 st sp x y:=by rw[a_];kernel_rfl
theorem bs23{fr:Fr}{st:St}{l:Nat}{ps:Array (Nat×Operand)}:k_3 tb fr st (.buildSlice 23 l ps)=bsV l 3 (.agg [(.int .i64 0),(.str []),(.list true (some true) [])]) (ps.toList.map (·.1)) st (evArgs tb fr (ps.toList.map (·.2))):=by rw[a_];kernel_rfl
theorem ld24{st:St}{a:V}:evLoad tb st 24 a=B_2 st a:=by rw[a_];kernel_rfl
theorem aI_1:tb.und 24=some (.slice 65):=by rw[a_];kernel_rfl
theorem ia24{fl:Bool}{nl:Option Bool}{xs:List V}{k:IntKind}{i:Int}:evIndexAddr tb 24 (.list fl nl xs) (.int k i)=idxL 6 xs i:=by rw[a_];kernel_rfl
theorem ib24{r s o l:Nat}{k:IntKind}{i:Int}:evIndexAddr tb 24 (.slice r s o l) (.int k i)=idxS 6 r s o l i:=by rw[a_];kernel_rfl
theorem ln24{st:St}{fl:Bool}{nl:Option Bool}{xs:List V}:lenV tb 24 st (.list fl nl xs)=some (.int .i64 (xs.length:Nat)):=by rw[a_];kernel_rfl
theorem lo24{st:St}{r s o l:Nat}:lenV tb 24 st (.slice r s o l)=some (.int .i64 (l:Nat)):=by rw[a_];kernel_rfl
theorem ap24{st:St}{sp:Bool}{x y:V}:evAppend tb st 24 sp x y=appV 6 112 st sp x y:=by rw[a_];kernel_rfl
theorem bs24{fr:Fr}{st:St}{l:Nat}{ps:Array (Nat×Operand)}:k_3 tb fr st (.buildSlice 24 l ps)=bsV l 6 (.agg [(.int .i64 0),(.str []),(.list true (some true) []),(.list true (some true) []),(.str []),(.list true (some true) [])]) (ps.toList.map (·.1)) st (evArgs tb fr (ps.toList.map (·.2))):=by rw[a_];kernel_rfl
theorem ld26{st:St}{a:V}:evLoad tb st 26 a=loadN 3 st a:=by rw[a_];kernel_rfl
theorem sr26{st:St}{a v:V}:evStore tb st 26 a v=storeN 3 st a v:=by rw[a_];kernel_rfl
theorem al26{f:Nat→V}{n:Nat}{m:List Nat}{st:St}{dd:Option Nat}{ss:List Step}:evSteps tb (run tb) (⟨dd, .alloc 26,none⟩::ss) (mk n f m) st=evSteps tb (run tb) ss (mk n (putF f dd (.ptr st.store.length 0)) m) (newBox st [(.list true (some true) []),(.list true (some true) []),(.list true (some true) [])]):=F_6 (by rw[a_];kernel_rfl) (by kernel_rfl)
theorem F_8{x:V}:evFieldAddr tb 26 x 0=faV 0 x:=by rw[a_];kernel_rfl
theorem G_{x:V}:evFieldAddr tb 26 x 1=faV 1 x:=by rw[a_];kernel_rfl
theorem F_9{x:V}:evFieldAddr tb 26 x 2=faV 2 x:=by rw[a_];kernel_rfl
theorem bd26{ps:List (Nat×V)}:evBuild tb 26 ps=bdV [(0,1),(1,1),(2,1)] [(.list true (some true) []),(.list true (some true) []),(.list true (some true) [])] ps:=by rw[a_];kernel_rfl
theorem ld29{st:St}{a:V}:evLoad tb st 29 a=B_2 st a:=by rw[a_];kernel_rfl
theorem sr29{st:St}{a v:V}:evStore tb st 29 a v=storeN 1 st a v:=by rw[a_];kernel_rfl
theorem al29{f:Nat→V}{n:Nat}{m:List Nat}{st:St}{dd:Option Nat}{ss:List Step}:evSteps tb (run tb) (⟨dd, .alloc 29,none⟩::ss) (mk n f m) st=evSteps tb (run tb) ss (mk n (putF f dd (.ptr st.store.length 0)) m) (newBox st [.nilp]):=F_6 (by rw[a_];kernel_rfl) (by kernel_rfl)
theorem ap_6:tb.und 30=some (.slice 62):=by rw[a_];kernel_rfl
theorem ln30{st:St}{fl:Bool}{nl:Option Bool}{xs:List V}:lenV tb 30 st (.list fl nl xs)=some (.int .i64 (xs.length:Nat)):=by rw[a_];kernel_rfl
theorem lo30{st:St}{r s o l:Nat}:lenV tb 30 st (.slice r s o l)=some (.int .i64 (l:Nat)):=by rw[a_];kernel_rfl
theorem ap30{st:St}{sp:Bool}{x y:V}:evAppend tb st 30 sp x y=appV 2 16 st sp x y:=by rw[a_];kernel_rfl
theorem bs30{fr:Fr}{st:St}{l:Nat}{ps:Array (Nat×Operand)}:k_3 tb fr st (.buildSlice 30 l ps)=bsV l 2 (.agg [(.int .i64 0),(.int .i64 0)]) (ps.toList.map (·.1)) st (evArgs tb fr (ps.toList.map (·.2))):=by rw[a_];kernel_rfl
theorem ld35{st:St}{a:V}:evLoad tb st 35 a=B_2 st a:=by rw[a_];kernel_rfl
theorem sr35{st:St}{a v:V}:evStore tb st 35 a v=storeN 1 st a v:=by rw[a_];kernel_rfl
theorem Q_3:tb.und 35=some (.slice 49):=by rw[a_];kernel_rfl
theorem ia35{fl:Bool}{nl:Option Bool}{xs:List V}{k:IntKind}{i:Int}:evIndexAddr tb 35 (.list fl nl xs) (.int k i)=idxL 2 xs i:=by rw[a_];kernel_rfl
theorem ln35{st:St}{fl:Bool}{nl:Option Bool}{xs:List V}:lenV tb 35 st (.list fl nl xs)=some (.int .i64 (xs.length:Nat)):=by rw[a_];kernel_rfl
theorem sl35{fl:Bool}{nl:Option Bool}{xs:List V}{lo hi mx:Option V}:evSlice tb 35 (.list fl nl xs) lo hi mx=sliceList 2 fl nl xs lo hi mx:=by rw[a_];kernel_rfl
theorem ap35{st:St}{sp:Bool}{x y:V}:evAppend tb st 35 sp x y=appV 2 32 st sp x y:=by rw[a_];kernel_rfl
theorem bs35{fr:Fr}{st:St}{l:Nat}{ps:Array (Nat×Operand)}:k_3 tb fr st (.buildSlice 35 l ps)=bsV l 2 (.agg [(.str []),(.str [])]) (ps.toList.map (·.1)) st (evArgs tb fr (ps.toList.map (·.2))):=by rw[a_];kernel_rfl
theorem ld37{st:St}{a:V}:evLoad tb st 37 a=loadN 5 st a:=by rw[a_];kernel_rfl
theorem sr37{st:St}{a v:V}:evStore tb st 37 a v=storeN 5 st a v:=by rw[a_];kernel_rfl
theorem al37{f:Nat→V}{n:Nat}{m:List Nat}{st:St}{dd:Option Nat}{ss:List Step}:evSteps tb (run tb) (⟨dd, .alloc 37,none⟩::ss) (mk n f m) st=evSteps tb (run tb) ss (mk n (putF f dd (.ptr st.store.length 0)) m) (newBox st [(.int .i64 0),(.str []),(.bool false),(.bool false),(.list true (some true) [])]):=F_6 (by rw[a_];kernel_rfl) (by kernel_rfl)
theorem I_1{x:V}:evFieldAddr tb 37 x 0=faV 0 x:=by rw[a_];kernel_rfl
theorem I_2{x:V}:evFieldAddr tb 37 x 1=faV 1 x:=by rw[a_];kernel_rfl
theorem I_0{x:V}:evFieldAddr tb 37 x 2=faV 2 x:=by rw[a_];kernel_rfl
theorem I_4{x:V}:evFieldAddr tb 37 x 3=faV 3 x:=by rw[a_];kernel_rfl
theorem I_3{x:V}:evFieldAddr tb 37 x 4=faV 4 x:=by rw[a_];kernel_rfl
theorem bd37{ps:List (Nat×V)}:evBuild tb 37 ps=bdV [(0,1),(1,1),(2,1),(3,1),(4,1)] [(.int .i64 0),(.str []),(.bool false),(.bool false),(.list true (some true) [])] ps:=by rw[a_];kernel_rfl
theorem ld40{st:St}{a:V}:evLoad tb st 40 a=B_2 st a:=by rw[a_];kernel_rfl
theorem ld45{st:St}{a:V}:evLoad tb st 45 a=loadN 3 st a:=by rw[a_];kernel_rfl
theorem sr45{st:St}{a v:V}:evStore tb st 45 a v=storeN 3 st a v:=by rw[a_];kernel_rfl
theorem al45{f:Nat→V}{n:Nat}{m:List Nat}{st:St}{dd:Option Nat}{ss:List Step}:evSteps tb (run tb) (⟨dd, .alloc 45,none⟩::ss) (mk n f m) st=evSteps tb (run tb) ss (mk n (putF f dd (.ptr st.store.length 0)) m) (newBox st [(.int .i64 0),(.str []),(.list true (some true) [])]):=F_6 (by rw[a_];kernel_rfl) (by kernel_rfl)
theorem K_8{x:V}:evFieldAddr tb 45 x 0=faV 0 x:=by rw[a_];kernel_rfl
theorem K_9{x:V}:evFieldAddr tb 45 x 1=faV 1 x:=by rw[a_];kernel_rfl
theorem K_3{x:V}:evFieldAddr tb 45 x 2=faV 2 x:=by rw[a_];kernel_rfl
theorem ld49{st:St}{a:V}:evLoad tb st 49 a=loadN 2 st a:=by rw[a_];kernel_rfl
theorem sr49{st:St}{a v:V}:evStore tb st 49 a v=storeN 2 st a v:=by rw[a_];kernel_rfl
theorem al49{f:Nat→V}{n:Nat}{m:List Nat}{st:St}{dd:Option Nat}{ss:List Step}:evSteps tb (run tb) (⟨dd, .alloc 49,none⟩::ss) (mk n f m) st=evSteps tb (run tb) ss (mk n (putF f dd (.ptr st.store.length 0)) m) (newBox st [(.str []),(.str [])]):=F_6 (by rw[a_];kernel_rfl) (by kernel_rfl)
theorem M_5{x:V}:evFieldAddr tb 49 x 0=faV 0 x:=by rw[a_];kernel_rfl
theorem M_6{x:V}:evFieldAddr tb 49 x 1=faV 1 x:=by rw[a_];kernel_rfl
theorem bd62{ps:List (Nat×V)}:evBuild tb 62 ps=bdV [(0,1),(1,1)] [(.int .i64 0),(.int .i64 0)] ps:=by rw[a_];kernel_rfl
theorem ld63{st:St}{a:V}:evLoad tb st 63 a=B_2 st a:=by rw[a_];kernel_rfl
theorem sr63{st:St}{a v:V}:evStore tb st 63 a v=storeN 1 st a v:=by rw[a_];kernel_rfl
theorem aT_:tb.und 63=some (.slice 75):=by rw[a_];kernel_rfl
theorem ia63{fl:Bool}{nl:Option Bool}{xs:List V}{k:IntKind}{i:Int}:evIndexAddr tb 63 (.list fl nl xs) (.int k i)=idxL 11 xs i:=by rw[a_];kernel_rfl
theorem ib63{r s o l:Nat}{k:IntKind}{i:Int}:evIndexAddr tb 63 (.slice r s o l) (.int k i)=idxS 11 r s o l i:=by rw[a_];kernel_rfl
theorem ln63{st:St}{fl:Bool}{nl:Option Bool}{xs:List V}:lenV tb 63 st (.list fl nl xs)=some (.int .i64 (xs.length:Nat)):=by rw[a_];kernel_rfl
theorem lo63{st:St}{r s o l:Nat}:lenV tb 63 st (.slice r s o l)=some (.int .i64 (l:Nat)):=by rw[a_];kernel_rfl
theorem ap63{st:St}{sp:Bool}{x y:V}:evAppend tb st 63 sp x y=appV 11 192 st sp x y:=by rw[a_];kernel_rfl
theorem bs63{fr:Fr}{st:St}{l:Nat}{ps:Array (Nat×Operand)}:k_3 tb fr st (.buildSlice 63 l ps)=bsV l 11 (.agg [(.int .i64 0),(.str []),(.list true (some true) []),(.int .i64 0),(.int .i64 0),(.str []),(.list true (some true) []),(.str []),(.list true (some true) []),(.list true (some true) []),(.list true (some true) [])]) (ps.toList.map (·.1)) st (evArgs tb fr (ps.toList.map (·.2))):=by rw[a_];kernel_rfl
theorem ld65{st:St}{a:V}:evLoad tb st 65 a=loadN 6 st a:=by rw[a_];kernel_rfl
theorem sr65{st:St}{a v:V}:evStore tb st 65 a v=storeN 6 st a v:=by rw[a_];kernel_rfl
theorem al65{f:Nat→V}{n:Nat}{m:List Nat}{st:St}{dd:Option Nat}{ss:List Step}:evSteps tb (run tb) (⟨dd, .alloc 65,none⟩::ss) (mk n f m) st=evSteps tb (run tb) ss (mk n (putF f dd (.ptr st.store.length 0)) m) (newBox st [(.int .i64 0),(.str []),(.list true (some true) []),(.list true (some true) []),(.str []),(.list true (some true) [])]):=F_6 (by rw[a_];kernel_rfl) (by kernel_rfl)
theorem aP_{x:V}:evFieldAddr tb 65 x 1=faV 1 x:=by rw[a_];kernel_rfl
theorem aO_5{x:V}:evFieldAddr tb 65 x 2=faV 2 x:=by rw[a_];kernel_rfl
theorem aK_6{x:V}:evFieldAddr tb 65 x 3=faV 3 x:=by rw[a_];kernel_rfl
theorem aM_3{x:V}:evFieldAddr tb 65 x 4=faV 4 x:=by rw[a_];kernel_rfl
theorem aO_1{x:V}:evFieldAddr tb 65 x 5=faV 5 x:=by rw[a_];kernel_rfl
theorem ld66{st:St}{a:V}:evLoad tb st 66 a=B_2 st a:=by rw[a_];kernel_rfl
theorem sr66{st:St}{a v:V}:evStore tb st 66 a v=storeN 1 st a v:=by rw[a_];kernel_rfl
theorem aR_:tb.und 66=some (.slice 77):=by rw[a_];kernel_rfl
theorem ia66{fl:Bool}{nl:Option Bool}{xs:List V}{k:IntKind}{i:Int}:evIndexAddr tb 66 (.list fl nl xs) (.int k i)=idxL 8 xs i:=by rw[a_];kernel_rfl
theorem ib66{r s o l:Nat}{k:IntKind}{i:Int}:evIndexAddr tb 66 (.slice r s o l) (.int k i)=idxS 8 r s o l i:=by rw[a_];kernel_rfl
theorem ln66{st:St}{fl:Bool}{nl:Option Bool}{xs:List V}:lenV tb 66 st (.list fl nl xs)=some (.int .i64 (xs.length:Nat)):=by rw[a_];kernel_rfl
theorem lo66{st:St}{r s o l:Nat}:lenV tb 66 st (.slice r s o l)=some (.int .i64 (l:Nat)):=by rw[a_];kernel_rfl
theorem ap66{st:St}{sp:Bool}{x y:V}:evAppend tb st 66 sp x y=appV 8 120 st sp x y:=by rw[a_];kernel_rfl
theorem bs66{fr:Fr}{st:St}{l:Nat}{ps:Array (Nat×Operand)}:k_3 tb fr st (.buildSlice 66 l ps)=bsV l 8 (.agg [(.int .i64 0),(.int .i64 0),(.str []),(.list true (some true) []),(.int .i64 0),(.str []),(.str []),(.list true (some true) [])]) (ps.toList.map (·.1)) st (evArgs tb fr (ps.toList.map (·.2))):=by rw[a_];kernel_rfl
theorem ld67{st:St}{a:V}:evLoad tb st 67 a=B_2 st a:=by rw[a_];kernel_rfl
theorem sr67{st:St}{a v:V}:evStore tb st 67 a v=storeN 1 st a v:=by rw[a_];kernel_rfl
theorem R_0:tb.und 67=some (.slice 9):=by rw[a_];kernel_rfl
theorem ia67{fl:Bool}{nl:Option Bool}{xs:List V}{k:IntKind}{i:Int}:evIndexAddr tb 67 (.list fl nl xs) (.int k i)=idxL 1 xs i:=by rw[a_];kernel_rfl
theorem ib67{r s o l:Nat}{k:IntKind}{i:Int}:evIndexAddr tb 67 (.slice r s o l) (.int k i)=idxS 1 r s o l i:=by rw[a_];kernel_rfl
theorem ln67{st:St}{fl:Bool}{nl:Option Bool}{xs:List V}:lenV tb 67 st (.list fl nl xs)=some (.int .i64 (xs.length:Nat)):=by rw[a_];kernel_rfl
theorem lo67{st:St}{r s o l:Nat}:lenV tb 67 st (.slice r s o l)=some (.int .i64 (l:Nat)):=by rw[a_];kernel_rfl
theorem ap67{st:St}{sp:Bool}{x y:V}:evAppend tb st 67 sp x y=appW 1 16 st sp x y:=by rw[a_];kernel_rfl
theorem bs67{fr:Fr}{st:St}{l:Nat}{ps:Array (Nat×Operand)}:k_3 tb fr st (.buildSlice 67 l ps)=bsV l 1 (.str []) (ps.toList.map (·.1)) st (evArgs tb fr (ps.toList.map (·.2))):=by rw[a_];kernel_rfl
theorem ld69{st:St}{a:V}:evLoad tb st 69 a=loadN 2 st a:=by rw[a_];kernel_rfl
theorem sr69{st:St}{a v:V}:evStore tb st 69 a v=storeN 2 st a v:=by rw[a_];kernel_rfl
theorem al69{f:Nat→V}{n:Nat}{m:List Nat}{st:St}{dd:Option Nat}{ss:List Step}:evSteps tb (run tb) (⟨dd, .alloc 69,none⟩::ss) (mk n f m) st=evSteps tb (run tb) ss (mk n (putF f dd (.ptr st.store.length 0)) m) (newBox st [(.str []),(.list true (some true) [])]):=F_6 (by rw[a_];kernel_rfl) (by kernel_rfl)
theorem an_8{x:V}:evFieldAddr tb 69 x 0=faV 0 x:=by rw[a_];kernel_rfl
theorem ao_4{x:V}:evFieldAddr tb 69 x 1=faV 1 x:=by rw[a_];kernel_rfl
theorem ld70{st:St}{a:V}:evLoad tb st 70 a=B_2 st a:=by rw[a_];kernel_rfl
theorem sr70{st:St}{a v:V}:evStore tb st 70 a v=storeN 1 st a v:=by rw[a_];kernel_rfl
theorem ay_8:tb.und 70=some (.slice 69):=by rw[a_];kernel_rfl
theorem ia70{fl:Bool}{nl:Option Bool}{xs:List V}{k:IntKind}{i:Int}:evIndexAddr tb 70 (.list fl nl xs) (.int k i)=idxL 2 xs i:=by rw[a_];kernel_rfl
theorem ib70{r s o l:Nat}{k:IntKind}{i:Int}:evIndexAddr tb 70 (.slice r s o l) (.int k i)=idxS 2 r s o l i:=by rw[a_];kernel_rfl
theorem ln70{st:St}{fl:Bool}{nl:Option Bool}{xs:List V}:lenV tb 70 st (.list fl nl xs)=some (.int .i64 (xs.length:Nat)):=by rw[a_];kernel_rfl
theorem lo70{st:St}{r s o l:Nat}:lenV tb 70 st (.slice r s o l)=some (.int .i64 (l:Nat)):=by rw[a_];kernel_rfl
theorem ap70{st:St}{sp:Bool}{x y:V}:evAppend tb st 70 sp x y=appV 2 40 st sp x y:=by rw[a_];kernel_rfl
theorem bs70{fr:Fr}{st:St}{l:Nat}{ps:Array (Nat×Operand)}:k_3 tb fr st (.buildSlice 70 l ps)=bsV l 2 (.agg [(.str []),(.list true (some true) [])]) (ps.toList.map (·.1)) st (evArgs tb fr (ps.toList.map (·.2))):=by rw[a_];kernel_rfl
theorem ld71{st:St}{a:V}:evLoad tb st 71 a=B_2 st a:=by rw[a_];kernel_rfl
theorem sr71{st:St}{a v:V}:evStore tb st 71 a v=storeN 1 st a v:=by rw[a_];kernel_rfl
theorem aQ_3:tb.und 71=some (.slice 114):=by rw[a_];kernel_rfl
theorem ia71{fl:Bool}{nl:Option Bool}{xs:List V}{k:IntKind}{i:Int}:evIndexAddr tb 71 (.list fl nl xs) (.int k i)=idxL 3 xs i:=by rw[a_];kernel_rfl
theorem ln71{st:St}{fl:Bool}{nl:Option Bool}{xs:List V}:lenV tb 71 st (.list fl nl xs)=some (.int .i64 (xs.length:Nat)):=by rw[a_];kernel_rfl
theorem ap71{st:St}{sp:Bool}{x y:V}:evAppend tb st 71 sp x y=appV 3 48 st sp x y:=by rw[a_];kernel_rfl
theorem bs71{fr:Fr}{st:St}{l:Nat}{ps:Array (Nat×Operand)}:k_3 tb fr st (.buildSlice 71 l ps)=bsV l 3 (.agg [(.str []),(.str []),(.str [])]) (ps.toList.map (·.1)) st (evArgs tb fr (ps.toList.map (·.2))):=by rw[a_];kernel_rfl
theorem ld73{st:St}{a:V}:evLoad tb st 73 a=loadN 8 st a:=by rw[a_];kernel_rfl
theorem sr73{st:St}{a v:V}:evStore tb st 73 a v=storeN 8 st a v:=by rw[a_];kernel_rfl
theorem al73{f:Nat→V}{n:Nat}{m:List Nat}{st:St}{dd:Option Nat}{ss:List Step}:evSteps tb (run tb) (⟨dd, .alloc 73,none⟩::ss) (mk n f m) st=evSteps tb (run tb) ss (mk n (putF f dd (.ptr st.store.length 0)) m) (newBox st [(.int .i64 0),(.int .i64 0),(.str []),(.list true (some true) []),(.str []),(.list true (some true) []),(.list true (some true) []),(.list true (some true) [])]):=F_6 (by rw[a_];kernel_rfl) (by kernel_rfl)
theorem aN_7{x:V}:evFieldAddr tb 73 x 1=faV 1 x:=by rw[a_];kernel_rfl
theorem aN_2{x:V}:evFieldAddr tb 73 x 2=faV 2 x:=by rw[a_];kernel_rfl
theorem aL_{x:V}:evFieldAddr tb 73 x 3=faV 4 x:=by rw[a_];kernel_rfl
theorem aN_{x:V}:evFieldAddr tb 73 x 4=faV 5 x:=by rw[a_];kernel_rfl
theorem aN_8{x:V}:evFieldAddr tb 73 x 5=faV 6 x:=by rw[a_];kernel_rfl
theorem aM_5{x:V}:evFieldAddr tb 73 x 6=faV 7 x:=by rw[a_];kernel_rfl
theorem ld75{st:St}{a:V}:evLoad tb st 75 a=loadN 11 st a:=by rw[a_];kernel_rfl
theorem sr75{st:St}{a v:V}:evStore tb st 75 a v=storeN 11 st a v:=by rw[a_];kernel_rfl
theorem al75{f:Nat→V}{n:Nat}{m:List Nat}{st:St}{dd:Option Nat}{ss:List Step}:evSteps tb (run tb) (⟨dd, .alloc 75,none⟩::ss) (mk n f m) st=evSteps tb (run tb) ss (mk n (putF f dd (.ptr st.store.length 0)) m) (newBox st [(.int .i64 0),(.str []),(.list true (some true) []),(.int .i64 0),(.int .i64 0),(.str []),(.list true (some true) []),(.str []),(.list true (some true) []),(.list true (some true) []),(.list true (some true) [])]):=F_6 (by rw[a_];kernel_rfl) (by kernel_rfl)
theorem aQ_{x:V}:evFieldAddr tb 75 x 1=faV 1 x:=by rw[a_];kernel_rfl
theorem aQ_0{x:V}:evFieldAddr tb 75 x 2=faV 2 x:=by rw[a_];kernel_rfl
theorem aO_3{x:V}:evFieldAddr tb 75 x 3=faV 3 x:=by rw[a_];kernel_rfl
theorem ld77{st:St}{a:V}:evLoad tb st 77 a=loadN 8 st a:=by rw[a_];kernel_rfl
theorem sr77{st:St}{a v:V}:evStore tb st 77 a v=storeN 8 st a v:=by rw[a_];kernel_rfl
theorem al77{f:Nat→V}{n:Nat}{m:List Nat}{st:St}{dd:Option Nat}{ss:List Step}:evSteps tb (run tb) (⟨dd, .alloc 77,none⟩::ss) (mk n f m) st=evSteps tb (run tb) ss (mk n (putF f dd (.ptr st.store.length 0)) m) (newBox st [(.int .i64 0),(.int .i64 0),(.str []),(.list true (some true) []),(.int .i64 0),(.str []),(.str []),(.list true (some true) [])]):=F_6 (by rw[a_];kernel_rfl) (by kernel_rfl)
theorem aL_7{x:V}:evFieldAddr tb 77 x 1=faV 1 x:=by rw[a_];kernel_rfl
theorem aK_8{x:V}:evFieldAddr tb 77 x 2=faV 2 x:=by rw[a_];kernel_rfl
theorem aO_7{x:V}:evFieldAddr tb 77 x 3=faV 4 x:=by rw[a_];kernel_rfl
theorem aN_6{x:V}:evFieldAddr tb 77 x 4=faV 5 x:=by rw[a_];kernel_rfl
theorem aK_5{x:V}:evFieldAddr tb 77 x 5=faV 6 x:=by rw[a_];kernel_rfl
theorem aP_4{x:V}:evFieldAddr tb 77 x 6=faV 7 x:=by rw[a_];kernel_rfl
theorem ld79{st:St}{a:V}:evLoad tb st 79 a=B_2 st a:=by rw[a_];kernel_rfl
theorem bs_5:tb.und 79=some (.slice 88):=by rw[a_];kernel_rfl
theorem ia79{fl:Bool}{nl:Option Bool}{xs:List V}{k:IntKind}{i:Int}:evIndexAddr tb 79 (.list fl nl xs) (.int k i)=idxL 1 xs i:=by rw[a_];kernel_rfl
theorem ib79{r s o l:Nat}{k:IntKind}{i:Int}:evIndexAddr tb 79 (.slice r s o l) (.int k i)=idxS 1 r s o l i:=by rw[a_];kernel_rfl
theorem ln79{st:St}{fl:Bool}{nl:Option Bool}{xs:List V}:lenV tb 79 st (.list fl nl xs)=some (.int .i64 (xs.length:Nat)):=by rw[a_];kernel_rfl
theorem lo79{st:St}{r s o l:Nat}:lenV tb 79 st (.slice r s o l)=some (.int .i64 (l:Nat)):=by rw[a_];kernel_rfl
theorem ap79{st:St}{sp:Bool}{x y:V}:evAppend tb st 79 sp x y=appV 1 8 st sp x y:=by rw[a_];kernel_rfl
theorem bs79{fr:Fr}{st:St}{l:Nat}{ps:Array (Nat×Operand)}:k_3 tb fr st (.buildSlice 79 l ps)=bsV l 1 .nilp (ps.toList.map (·.1)) st (evArgs tb fr (ps.toList.map (·.2))):=by rw[a_];kernel_rfl
theorem ld82{st:St}{a:V}:evLoad tb st 82 a=B_2 st a:=by rw[a_];kernel_rfl
theorem V_1{x:V}:evFieldAddr tb 84 x 0=faV 0 x:=by rw[a_];kernel_rfl
theorem W_{x:V}:evFieldAddr tb 84 x 1=faV 3 x:=by rw[a_];kernel_rfl
theorem bd84{ps:List (Nat×V)}:evBuild tb 84 ps=bdV [(0,3),(3,1)] [(.list true (some true) []),(.list true (some true) []),(.list true (some true) []), .nilmap] ps:=by rw[a_];kernel_rfl
theorem ld88{st:St}{a:V}:evLoad tb st 88 a=B_2 st a:=by rw[a_];kernel_rfl
theorem af_0{x:V}:evFieldAddr tb 90 x 0=faV 0 x:=by rw[a_];kernel_rfl
theorem ai_1{x:V}:evFieldAddr tb 90 x 1=faV 1 x:=by rw[a_];kernel_rfl
theorem ah_8{x:V}:evFieldAddr tb 90 x 2=faV 2 x:=by rw[a_];kernel_rfl
theorem ah_1{x:V}:evFieldAddr tb 90 x 3=faV 3 x:=by rw[a_];kernel_rfl
theorem ag_0{x:V}:evFieldAddr tb 90 x 4=faV 4 x:=by rw[a_];kernel_rfl
theorem ae_8{x:V}:evFieldAddr tb 90 x 5=faV 5 x:=by rw[a_];kernel_rfl
theorem ah_2{x:V}:evFieldAddr tb 90 x 6=faV 6 x:=by rw[a_];kernel_rfl
theorem bd90{ps:List (Nat×V)}:evBuild tb 90 ps=bdV [(0,1),(1,1),(2,1),(3,1),(4,1),(5,1),(6,1)] [(.str []),(.int .i64 0),(.bool false),(.bool false),(.list true (some true) []),(.int .i64 0),(.bool false)] ps:=by rw[a_];kernel_rfl
theorem bo_1:tb.und 106=some (.int .u64):=by rw[a_];kernel_rfl
theorem br_8{st:St}{a:V}:evLoad tb st 114 a=loadN 3 st a:=by rw[a_];kernel_rfl
theorem aI_5{x:V}:evFieldAddr tb 114 x 0=faV 0 x:=by rw[a_];kernel_rfl
theorem aI_9{x:V}:evFieldAddr tb 114 x 1=faV 1 x:=by rw[a_];kernel_rfl
theorem aH_5{x:V}:evFieldAddr tb 114 x 2=faV 2 x:=by rw[a_];kernel_rfl
theorem bp_7{st:St}{a:V}:evLoad tb st 116 a=B_2 st a:=by rw[a_];kernel_rfl
theorem bz_3{st:St}{a:V}:evLoad tb st 128 a=B_2 st a:=by rw[a_];kernel_rfl
theorem by_8{st:St}{a:V}:evLoad tb st 130 a=B_2 st a:=by rw[a_];kernel_rfl
theorem bw_5{st:St}{a:V}:evLoad tb st 132 a=B_2 st a:=by rw[a_];kernel_rfl
theorem bB_{st:St}{a:V}:evLoad tb st 161 a=B_2 st a:=by rw[a_];kernel_rfl
theorem bA_5{st:St}{a:V}:evLoad tb st 176 a=B_2 st a:=by rw[a_];kernel_rfl
theorem bB_2{st:St}{a:V}:evLoad tb st 200 a=B_2 st a:=by rw[a_];kernel_rfl
theorem bC_2{st:St}{a:V}:evLoad tb st 209 a=loadN 7 st a:=by rw[a_];kernel_rfl
theorem bA_9{st:St}{a v:V}:evStore tb st 209 a v=storeN 7 st a v:=by rw[a_];kernel_rfl
theorem bB_9{f:Nat→V}{n:Nat}{m:List Nat}{st:St}{dd:Option Nat}{ss:List Step}:evSteps tb (run tb) (⟨dd, .alloc 209,none⟩::ss) (mk n f m) st=evSteps tb (run tb) ss (mk n (putF f dd (.ptr st.store.length 0)) m) (newBox st [(.bool false),(.bool false),(.bool false),(.bool false),(.int .i64 0),(.int .i64 0),(.int .i64 0)]):=F_6 (by rw[a_];kernel_rfl) (by kernel_rfl)
theorem bu_6{x:V}:evFieldAddr tb 209 x 0=faV 0 x:=by rw[a_];kernel_rfl
theorem bp_8{x:V}:evFieldAddr tb 209 x 1=faV 1 x:=by rw[a_];kernel_rfl
theorem bq_3{x:V}:evFieldAddr tb 209 x 2=faV 2 x:=by rw[a_];kernel_rfl
theorem bu_2{x:V}:evFieldAddr tb 209 x 3=faV 3 x:=by rw[a_];kernel_rfl
theorem bu_3{x:V}:evFieldAddr tb 209 x 4=faV 4 x:=by rw[a_];kernel_rfl
theorem br_9{x:V}:evFieldAddr tb 209 x 5=faV 5 x:=by rw[a_];kernel_rfl
theorem bs_4{x:V}:evFieldAddr tb 209 x 6=faV 6 x:=by rw[a_];kernel_rfl
theorem bA_7{ps:List (Nat×V)}:evBuild tb 209 ps=bdV [(0,1),(1,1),(2,1),(3,1),(4,1),(5,1),(6,1)] [(.bool false),(.bool false),(.bool false),(.bool false),(.int .i64 0),(.int .i64 0),(.int .i64 0)] ps:=by rw[a_];kernel_rfl
theorem bC_1{st:St}{a:V}:evLoad tb st 214 a=B_2 st a:=by rw[a_];kernel_rfl
end Go.Proofs.YtghhphdkojjalaaGreatDoor
namespace Go.Abs
theorem add1{i:Nat}(h:i+1<2^62):intBin .add .i64 (i:Nat) 1=some (.int .i64 ((i:Int)+1)):=Q_4 (by omega) (by omega)
theorem getE{α:Type}{s:List α}{i:Nat}(h:i<s.length):s[i]? =some s[i]:=List.getElem?_eq_getElem h
def span(p:UInt8→Bool):List UInt8→Nat
 |[]=>0
 |c::s=>if p c then span p s+1 else 0
theorem aZ_6(p:UInt8→Bool):∀s,span p s≤s.length
 |[]=>Nat.le_refl _
 |c::s=>by
  have:=aZ_6 p s
  simp only[span,List.length_cons];split<;>omega
theorem az_8(p:UInt8→Bool):∀(s:List UInt8) (i:Nat) (hi:i<s.length),i≤span p s→p s[i]=true→i+1≤span p s
 |[],i,hi,_,_=>by simp at hi
 |c::s,0,hi,_,h=>by
  simp only[List.getElem_cons_zero]at h
  simp[span,h]
 |c::s,i+1,hi,hle,h=>by
  simp only[span]at hle⊢
  split at hle
  ·rename_i hc
   rw[if_pos hc]
   have:=az_8 p s i (by simpa using hi) (by omega) (by simpa using h)
   omega
  ·omega
theorem aw_7(p:UInt8→Bool):∀(s:List UInt8) (i:Nat) (hi:i<s.length),i≤span p s→p s[i]=false→span p s=i
 |[],i,hi,_,_=>by simp at hi
 |c::s,0,hi,_,h=>by
  simp only[List.getElem_cons_zero]at h
  simp[span,h]
 |c::s,i+1,hi,hle,h=>by
  simp only[span]at hle⊢
  split at hle
  ·rename_i hc
   rw[if_pos hc]
   have:=aw_7 p s i (by simpa using hi) (by omega) (by simpa using h)
   omega
  ·omega
theorem aN_3(p:UInt8→Bool):∀s,(span p s==s.length)=s.all p
 |[]=>rfl
 |c::s=>by
  have ih:=aN_3 p s
  simp only[span,List.all_cons,List.length_cons]
  cases h:p c with
  |true=>simpa using ih
  |false=>simp
def idx{α:Type}(p:α→Bool):List α→Nat
 |[]=>0
 |c::s=>if p c then 0 else idx p s+1
section
variable {α:Type}
theorem J_7(p:α→Bool):∀s,idx p s≤s.length
 |[]=>Nat.le_refl _
 |c::s=>by
  have:=J_7 p s
  simp only[idx,List.length_cons];split<;>omega
theorem w_5(p:α→Bool):∀(s:List α) (i:Nat) (hi:i<s.length),i≤idx p s→p s[i]=false→i+1≤idx p s
 |[],i,hi,_,_=>by simp at hi
 |c::s,0,hi,_,h=>by
  simp only[List.getElem_cons_zero]at h
  simp[idx,h]
 |c::s,i+1,hi,hle,h=>by
  simp only[idx]at hle⊢
  split at hle
  ·omega
  ·rename_i hc
   rw[if_neg hc]
   have:=w_5 p s i (by simpa using hi) (by omega) (by simpa using h)
   omega
theorem w_(p:α→Bool):∀(s:List α) (i:Nat) (hi:i<s.length),i≤idx p s→p s[i]=true→idx p s=i
 |[],i,hi,_,_=>by simp at hi
 |c::s,0,hi,_,h=>by
  simp only[List.getElem_cons_zero]at h
  simp[idx,h]
 |c::s,i+1,hi,hle,h=>by
  simp only[idx]at hle⊢
  split at hle
  ·omega
  ·rename_i hc
   rw[if_neg hc]
   have:=w_ p s i (by simpa using hi) (by omega) (by simpa using h)
   omega
theorem aH_(p:α→Bool):∀s,decide (idx p s<s.length)=s.any p
 |[]=>rfl
 |c::s=>by
  have ih:=aH_ p s
  simp only[idx,List.any_cons,List.length_cons]
  by_cases h:p c=true
  ·simp[h]
  ·simp only[h,if_false,←ih];simp
def idxI(p:α→Bool)(s:List α):Int:=if s.any p then(idx p s:Nat)else -1
theorem I_(p:α→Bool)(s:List α):decide ((0:Int)≤idxI p s)=s.any p:=by
 unfold idxI
 cases s.any p with
 |true=>simp
 |false=>simp
theorem u_9{p:α→Bool}{s:List α}(h:idx p s=s.length):idxI p s= -1:=by
 have:=aH_ p s
 rw[h]at this
 unfold idxI
 rw[←this];simp
theorem v_0{p:α→Bool}{s:List α}{i:Nat}(h:idx p s=i)(hi:i<s.length):idxI p s=(i:Nat):=by
 have:=aH_ p s
 rw[h]at this
 unfold idxI
 rw[←this,h];simp[hi]
end
def hasPre(s p:List UInt8):Bool:=decide (p.length≤s.length)&&(s.take p.length==p)
def boxS:List UInt8:=[98,111,120,32]
theorem p_8{s p:List UInt8}(h:hasPre s p=true):p.length≤s.length:=by
 unfold hasPre at h
 simp only[Bool.and_eq_true,decide_eq_true_eq]at h
 exact h.1
def strip(s:List UInt8):List UInt8×Nat:=if h:hasPre s boxS=true then((strip (s.drop 4)).1,(strip (s.drop 4)).2+1)else(s,0)
termination_by s.length
decreasing_by
 all_goals
  have:4≤s.length:=p_8 h
  simp only[List.length_drop];omega
theorem L_6{s:List UInt8}(h:hasPre s boxS=true):strip s=((strip (s.drop 4)).1,(strip (s.drop 4)).2+1):=by rw[strip,dif_pos h]
theorem x_3{s:List UInt8}(h:hasPre s boxS=false):strip s=(s,0):=by rw[strip,dif_neg (by simp[h])]
theorem ay_4:∀(n:Nat) (s:List UInt8),s.length≤n→(strip s).1.length≤s.length
 |0,s,h=>by
  have:hasPre s boxS=false:=by
   cases hh:hasPre s boxS with
   |false=>rfl
   |true=>have h4:4≤s.length:=p_8 hh;omega
  rw[x_3 this];exact Nat.le_refl _
 |n+1,s,h=>by
  cases hh:hasPre s boxS with
  |false=>rw[x_3 hh];exact Nat.le_refl _
  |true=>
   have h4:4≤s.length:=p_8 hh
   have:=ay_4 n (s.drop 4) (by simp;omega)
   rw[L_6 hh]
   simp only[List.length_drop]at this⊢
   omega
end Go.Abs
namespace Go.Proofs.YtghhphdkojjalaaGreatDoor
open Go.Abs
theorem a_6{g:FuncId}{fs cs args:List V}{st:St}(h:g≠198):evInvoke tb (run tb) (.func (.func g) fs cs) args st=(run tb).call g (fs ++args ++cs) st:=by
 have hx:tb.ext g=Option.none:=by rw[a_];simp[tb0,Tab.of,h]
 show(match tb.ext g with|some e=>evExt e (fs ++args ++cs) st|Option.none=>_)=_
 rw[hx]
abbrev Str:=List UInt8
theorem a_5{k l:Nat}{xs:List Str}:xs.all (below k (l+1)∘V.str)=true:=by simp[p_0]
structure Var where
 name:Str
 type:Str
def Var.v(x:Var):V:= .agg [.str x.name, .str x.type]
structure Place where
 loc:Str
 nl:Option Bool
 steps:List Str
def Place.v(x:Place):V:= .agg [.str x.loc, .list false x.nl (x.steps.map .str)]
end Go.Proofs.YtghhphdkojjalaaGreatDoor
namespace Go.Proofs.YtghhphdkojjalaaGreatDoor
noncomputable section
open Go.Abs
set_option maxRecDepth 1000000
set_option linter.unusedSimpArgs false
variable {rd:Option Nat} {f:Nat→V} {m:List Nat} {st:St}
def c25_0:=bodyOf Tryz.f25
def run25{args:List V}{st:St}(ha:args.length≤8):=a_1 (T:=tb) (fid:=25) (st:=st) (by rw[a_];exact Tryz.func25) (by rw[a_];rfl) (c:=c25_0) (rs:= #[.tmp 2, .tmp 3]) rfl rfl rfl ha
def c25_2:=kid c25_0 1
noncomputable def L25_1:Lt (kid c25_0 0):= .mk _
noncomputable def L25_3:Lt (kid c25_2 0):= .mk _
theorem S25:D tb c25_0=D tb (.seq (Rg L25_1) c25_2)∧D tb c25_2=D tb (.seq (Rg L25_3) .ret):=⟨rfl,rfl⟩
def c35_0:=bodyOf Tryz.f35
def run35{args:List V}{st:St}(ha:args.length≤20):=a_1 (T:=tb) (fid:=35) (st:=st) (by rw[a_];exact Tryz.func35) (by rw[a_];rfl) (c:=c35_0) (rs:= #[.tmp 2]) rfl rfl rfl ha
def c35_2:=kid c35_0 1
def c35_4:=kid c35_2 1
noncomputable def L35_1:Lt (kid c35_0 0):= .mk _
noncomputable def L35_3:Lt (kid c35_2 0):= .mk _
noncomputable def L35_5:Lt (kid c35_4 0):= .mk _
theorem S35:D tb c35_0=D tb (.seq (Rg L35_1) c35_2)∧D tb c35_2=D tb (.seq (Rg L35_3) c35_4)∧D tb c35_4=D tb (.seq (Rg L35_5) .ret):=⟨rfl,rfl,rfl⟩
def c49_0:=bodyOf Tryz.f49
def run49{args:List V}{st:St}(ha:args.length≤20):=a_1 (T:=tb) (fid:=49) (st:=st) (by rw[a_];exact Tryz.func49) (by rw[a_];rfl) (c:=c49_0) (rs:= #[.tmp 2, .tmp 3]) rfl rfl rfl ha
def c49_2:=kid c49_0 1
def c49_3:=kid c49_2 0
def c49_5:=kid c49_3 1
def c49_6:=kid c49_5 0
def c49_10:=kid c49_2 1
def c49_12:=kid c49_10 1
def c49_14:=kid c49_12 1
noncomputable def L49_1:Lt (kid c49_0 0):= .mk _
noncomputable def L49_4:Lt (kid c49_3 0):= .mk _
noncomputable def L49_7:Lt (kid c49_6 0):= .mk _
noncomputable def L49_11:Lt (kid c49_10 0):= .mk _
noncomputable def L49_13:Lt (kid c49_12 0):= .mk _
noncomputable def L49_15:Lt (kid c49_14 0):= .mk _
theorem S49:D tb c49_0=D tb (.seq (Rg L49_1) c49_2)∧D tb c49_2=D tb (.seq c49_3 c49_10)∧D tb c49_3=D tb (.seq (Rg L49_4) c49_5)∧D tb c49_5=D tb (.cond (.tmp 8) c49_6 .skip)∧D tb c49_6=D tb (.seq (Rg L49_7) .ret)∧D tb c49_10=D tb (.seq (Rg L49_11) c49_12)∧D tb c49_12=D tb (.seq (Rg L49_13) c49_14)∧D tb c49_14=D tb (.seq (Rg L49_15) .ret):=⟨rfl,rfl,rfl,rfl,rfl,rfl,rfl,rfl⟩
def c51_0:=bodyOf Tryz.f51
def run51{args:List V}{st:St}(ha:args.length≤24):=a_1 (T:=tb) (fid:=51) (st:=st) (by rw[a_];exact Tryz.func51) (by rw[a_];rfl) (c:=c51_0) (rs:= #[.tmp 2]) rfl rfl rfl ha
def c51_2:=kid c51_0 1
def c51_4:=kid c51_2 1
def c51_5:=kid c51_4 0
def c51_6:=kid c51_5 0
def c51_8:=kid c51_6 1
def c51_9:=kid c51_8 0
def c51_12:=kid c51_8 1
def c51_14:=kid c51_12 1
def c51_15:=kid c51_14 0
def c51_18:=kid c51_14 1
def c51_20:=kid c51_18 1
def c51_21:=kid c51_20 0
def c51_24:=kid c51_20 1
def c51_26:=kid c51_24 1
def c51_27:=kid c51_26 0
def c51_31:=kid c51_4 1
noncomputable def L51_1:Lt (kid c51_0 0):= .mk _
noncomputable def L51_3:Lt (kid c51_2 0):= .mk _
noncomputable def L51_7:Lt (kid c51_6 0):= .mk _
noncomputable def L51_10:Lt (kid c51_9 0):= .mk _
noncomputable def L51_13:Lt (kid c51_12 0):= .mk _
noncomputable def L51_16:Lt (kid c51_15 0):= .mk _
noncomputable def L51_19:Lt (kid c51_18 0):= .mk _
noncomputable def L51_22:Lt (kid c51_21 0):= .mk _
noncomputable def L51_25:Lt (kid c51_24 0):= .mk _
noncomputable def L51_28:Lt (kid c51_27 0):= .mk _
noncomputable def L51_32:Lt (kid c51_31 0):= .mk _
theorem S51:D tb c51_0=D tb (.seq (Rg L51_1) c51_2)∧D tb c51_2=D tb (.seq (Rg L51_3) c51_4)∧D tb c51_4=D tb (.seq c51_5 c51_31)∧D tb c51_5=D tb (.block 0 c51_6)∧D tb c51_6=D tb (.seq (Rg L51_7) c51_8)∧D tb c51_8=D tb (.cond (.tmp 10) c51_9 c51_12)∧D tb c51_9=D tb (.seq (Rg L51_10) .ret)∧D tb c51_12=D tb (.seq (Rg L51_13) c51_14)∧D tb c51_14=D tb (.cond (.tmp 14) c51_15 c51_18)∧D tb c51_15=D tb (.seq (Rg L51_16) .ret)∧D tb c51_18=D tb (.seq (Rg L51_19) c51_20)∧D tb c51_20=D tb (.cond (.tmp 18) c51_21 c51_24)∧D tb c51_21=D tb (.seq (Rg L51_22) .ret)∧D tb c51_24=D tb (.seq (Rg L51_25) c51_26)∧D tb c51_26=D tb (.cond (.tmp 21) c51_27 .skip)∧D tb c51_27=D tb (.seq (Rg L51_28) .ret)∧D tb c51_31=D tb (.seq (Rg L51_32) .ret):=⟨rfl,rfl,rfl,rfl,rfl,rfl,rfl,rfl,rfl,rfl,rfl,rfl,rfl,rfl,rfl,rfl,rfl⟩
def c56_0:=bodyOf Tryz.f56
def run56{args:List V}{st:St}(ha:args.length≤19):=a_1 (T:=tb) (fid:=56) (st:=st) (by rw[a_];exact Tryz.func56) (by rw[a_];rfl) (c:=c56_0) (rs:= #[.tmp 4, .tmp 5]) rfl rfl rfl ha
def c56_2:=kid c56_0 1
def c56_3:=kid c56_2 0
def c56_5:=kid c56_3 1
def c56_6:=kid c56_5 0
def c56_10:=kid c56_2 1
noncomputable def L56_1:Lt (kid c56_0 0):= .mk _
noncomputable def L56_4:Lt (kid c56_3 0):= .mk _
noncomputable def L56_7:Lt (kid c56_6 0):= .mk _
noncomputable def L56_11:Lt (kid c56_10 0):= .mk _
theorem S56:D tb c56_0=D tb (.seq (Rg L56_1) c56_2)∧D tb c56_2=D tb (.seq c56_3 c56_10)∧D tb c56_3=D tb (.seq (Rg L56_4) c56_5)∧D tb c56_5=D tb (.cond (.tmp 15) c56_6 .skip)∧D tb c56_6=D tb (.seq (Rg L56_7) .ret)∧D tb c56_10=D tb (.seq (Rg L56_11) .ret):=⟨rfl,rfl,rfl,rfl,rfl,rfl⟩
def c67_0:=bodyOf Tryz.f67
def run67{args:List V}{st:St}(ha:args.length≤13):=a_1 (T:=tb) (fid:=67) (st:=st) (by rw[a_];exact Tryz.func67) (by rw[a_];rfl) (c:=c67_0) (rs:= #[.tmp 2, .tmp 3]) rfl rfl rfl ha
def c67_2:=kid c67_0 1
def c67_4:=kid c67_2 1
def c67_5:=kid c67_4 0
def c67_6:=kid c67_5 0
def c67_7:=kid c67_6 0
def c67_8:=kid c67_7 0
def c67_10:=kid c67_8 1
def c67_13:=kid c67_7 1
def c67_14:=kid c67_13 0
def c67_17:=kid c67_4 1
theorem p67_6:D tb c67_6 rd 13 f m st=loopK tb rd c67_6 13 f m st fun e fr st=>some (e,fr,st):=a_8
theorem e67_6:c67_6= .loop c67_7:=rfl
theorem w67_6:writes c67_7=some [5,6,7,8,0,9,10,4]:=by kernel_rfl
noncomputable def L67_1:Lt (kid c67_0 0):= .mk _
noncomputable def L67_3:Lt (kid c67_2 0):= .mk _
noncomputable def L67_9:Lt (kid c67_8 0):= .mk _
noncomputable def L67_15:Lt (kid c67_14 0):= .mk _
noncomputable def L67_16:Lt (kid c67_14 1):= .mk _
noncomputable def L67_18:Lt (kid c67_17 0):= .mk _
theorem S67:D tb c67_0=D tb (.seq (Rg L67_1) c67_2)∧D tb c67_2=D tb (.seq (Rg L67_3) c67_4)∧D tb c67_4=D tb (.seq c67_5 c67_17)∧D tb c67_5=D tb (.block 0 c67_6)∧D tb c67_7=D tb (.seq c67_8 c67_13)∧D tb c67_8=D tb (.seq (Rg L67_9) c67_10)∧D tb c67_10=D tb (.cond (.tmp 6) .skip (.exit 0))∧D tb c67_13=D tb (.block 1 c67_14)∧D tb c67_14=D tb (.seq (Rg L67_15) (Rg L67_16))∧D tb c67_17=D tb (.seq (Rg L67_18) .ret):=⟨rfl,rfl,rfl,rfl,rfl,rfl,rfl,rfl,rfl,rfl⟩
def c68_0:=bodyOf Tryz.f68
def run68{args:List V}{st:St}(ha:args.length≤25):=a_1 (T:=tb) (fid:=68) (st:=st) (by rw[a_];exact Tryz.func68) (by rw[a_];rfl) (c:=c68_0) (rs:= #[.tmp 2]) rfl rfl rfl ha
def c68_2:=kid c68_0 1
def c68_3:=kid c68_2 0
def c68_5:=kid c68_3 1
def c68_6:=kid c68_5 0
def c68_10:=kid c68_2 1
noncomputable def L68_1:Lt (kid c68_0 0):= .mk _
noncomputable def L68_4:Lt (kid c68_3 0):= .mk _
noncomputable def L68_7:Lt (kid c68_6 0):= .mk _
noncomputable def L68_11:Lt (kid c68_10 0):= .mk _
theorem S68:D tb c68_0=D tb (.seq (Rg L68_1) c68_2)∧D tb c68_2=D tb (.seq c68_3 c68_10)∧D tb c68_3=D tb (.seq (Rg L68_4) c68_5)∧D tb c68_5=D tb (.cond (.tmp 19) c68_6 .skip)∧D tb c68_6=D tb (.seq (Rg L68_7) .ret)∧D tb c68_10=D tb (.seq (Rg L68_11) .ret):=⟨rfl,rfl,rfl,rfl,rfl,rfl⟩
def c90_0:=bodyOf Tryz.f90
def run90{args:List V}{st:St}(ha:args.length≤9):=b_1 (T:=tb) (fid:=90) (st:=st) (by rw[a_];exact Tryz.func90) (by rw[a_];rfl) (c:=c90_0) (rs:= #[.tmp 4]) rfl rfl rfl ha
def c90_2:=kid c90_0 1
noncomputable def L90_1:Lt (kid c90_0 0):= .mk _
noncomputable def L90_3:Lt (kid c90_2 0):= .mk _
theorem S90:D tb c90_0=D tb (.seq (Rg L90_1) c90_2)∧D tb c90_2=D tb (.seq (Rg L90_3) .ret):=⟨rfl,rfl⟩
def c94_0:=bodyOf Tryz.f94
def run94{args:List V}{st:St}(ha:args.length≤23):=a_1 (T:=tb) (fid:=94) (st:=st) (by rw[a_];exact Tryz.func94) (by rw[a_];rfl) (c:=c94_0) (rs:= #[.tmp 2, .tmp 3]) rfl rfl rfl ha
def c94_2:=kid c94_0 1
def c94_3:=kid c94_2 0
def c94_5:=kid c94_3 1
def c94_7:=kid c94_5 1
def c94_8:=kid c94_7 0
def c94_12:=kid c94_2 1
def c94_13:=kid c94_12 0
def c94_15:=kid c94_13 1
def c94_17:=kid c94_15 1
def c94_18:=kid c94_17 0
def c94_22:=kid c94_12 1
noncomputable def L94_1:Lt (kid c94_0 0):= .mk _
noncomputable def L94_4:Lt (kid c94_3 0):= .mk _
noncomputable def L94_6:Lt (kid c94_5 0):= .mk _
noncomputable def L94_9:Lt (kid c94_8 0):= .mk _
noncomputable def L94_14:Lt (kid c94_13 0):= .mk _
noncomputable def L94_16:Lt (kid c94_15 0):= .mk _
noncomputable def L94_19:Lt (kid c94_18 0):= .mk _
noncomputable def L94_23:Lt (kid c94_22 0):= .mk _
theorem S94:D tb c94_0=D tb (.seq (Rg L94_1) c94_2)∧D tb c94_2=D tb (.seq c94_3 c94_12)∧D tb c94_3=D tb (.seq (Rg L94_4) c94_5)∧D tb c94_5=D tb (.seq (Rg L94_6) c94_7)∧D tb c94_7=D tb (.cond (.tmp 13) c94_8 .skip)∧D tb c94_8=D tb (.seq (Rg L94_9) .ret)∧D tb c94_12=D tb (.seq c94_13 c94_22)∧D tb c94_13=D tb (.seq (Rg L94_14) c94_15)∧D tb c94_15=D tb (.seq (Rg L94_16) c94_17)∧D tb c94_17=D tb (.cond (.tmp 20) c94_18 .skip)∧D tb c94_18=D tb (.seq (Rg L94_19) .ret)∧D tb c94_22=D tb (.seq (Rg L94_23) .ret):=⟨rfl,rfl,rfl,rfl,rfl,rfl,rfl,rfl,rfl,rfl,rfl,rfl⟩
def c95_0:=bodyOf Tryz.f95
def run95{args:List V}{st:St}(ha:args.length≤8):=a_1 (T:=tb) (fid:=95) (st:=st) (by rw[a_];exact Tryz.func95) (by rw[a_];rfl) (c:=c95_0) (rs:= #[.tmp 4]) rfl rfl rfl ha
def c95_2:=kid c95_0 1
noncomputable def L95_1:Lt (kid c95_0 0):= .mk _
noncomputable def L95_3:Lt (kid c95_2 0):= .mk _
theorem S95:D tb c95_0=D tb (.seq (Rg L95_1) c95_2)∧D tb c95_2=D tb (.seq (Rg L95_3) .ret):=⟨rfl,rfl⟩
def c98_0:=bodyOf Tryz.f98
def run98{args:List V}{st:St}(ha:args.length≤9):=a_1 (T:=tb) (fid:=98) (st:=st) (by rw[a_];exact Tryz.func98) (by rw[a_];rfl) (c:=c98_0) (rs:= #[.tmp 2]) rfl rfl rfl ha
def c98_2:=kid c98_0 1
noncomputable def L98_1:Lt (kid c98_0 0):= .mk _
noncomputable def L98_3:Lt (kid c98_2 0):= .mk _
theorem S98:D tb c98_0=D tb (.seq (Rg L98_1) c98_2)∧D tb c98_2=D tb (.seq (Rg L98_3) .ret):=⟨rfl,rfl⟩
def c99_0:=bodyOf Tryz.f99
def run99{args:List V}{st:St}(ha:args.length≤6):=a_1 (T:=tb) (fid:=99) (st:=st) (by rw[a_];exact Tryz.func99) (by rw[a_];rfl) (c:=c99_0) (rs:= #[.tmp 2]) rfl rfl rfl ha
def c99_2:=kid c99_0 1
noncomputable def L99_1:Lt (kid c99_0 0):= .mk _
noncomputable def L99_3:Lt (kid c99_2 0):= .mk _
theorem S99:D tb c99_0=D tb (.seq (Rg L99_1) c99_2)∧D tb c99_2=D tb (.seq (Rg L99_3) .ret):=⟨rfl,rfl⟩
def c100_0:=bodyOf Tryz.f100
def run100{args:List V}{st:St}(ha:args.length≤20):=a_1 (T:=tb) (fid:=100) (st:=st) (by rw[a_];exact Tryz.func100) (by rw[a_];rfl) (c:=c100_0) (rs:= #[.tmp 4]) rfl rfl rfl ha
def c100_2:=kid c100_0 1
def c100_4:=kid c100_2 1
def c100_5:=kid c100_4 0
def c100_6:=kid c100_5 0
def c100_7:=kid c100_6 0
def c100_8:=kid c100_7 0
def c100_10:=kid c100_8 1
def c100_13:=kid c100_7 1
def c100_15:=kid c100_4 1
theorem p100_6:D tb c100_6 rd 20 f m st=loopK tb rd c100_6 20 f m st fun e fr st=>some (e,fr,st):=a_8
theorem e100_6:c100_6= .loop c100_7:=rfl
theorem w100_6:writes c100_7=some [6,7,8,9,10,11,12,13,14,15,16,17,18,5]:=by kernel_rfl
noncomputable def L100_1:Lt (kid c100_0 0):= .mk _
noncomputable def L100_3:Lt (kid c100_2 0):= .mk _
noncomputable def L100_9:Lt (kid c100_8 0):= .mk _
noncomputable def L100_14:Lt (kid c100_13 0):= .mk _
noncomputable def L100_16:Lt (kid c100_15 0):= .mk _
theorem S100:D tb c100_0=D tb (.seq (Rg L100_1) c100_2)∧D tb c100_2=D tb (.seq (Rg L100_3) c100_4)∧D tb c100_4=D tb (.seq c100_5 c100_15)∧D tb c100_5=D tb (.block 0 c100_6)∧D tb c100_7=D tb (.seq c100_8 c100_13)∧D tb c100_8=D tb (.seq (Rg L100_9) c100_10)∧D tb c100_10=D tb (.cond (.tmp 16) .skip (.exit 0))∧D tb c100_13=D tb (.block 1 (Rg L100_14))∧D tb c100_15=D tb (.seq (Rg L100_16) .ret):=⟨rfl,rfl,rfl,rfl,rfl,rfl,rfl,rfl,rfl⟩
def c101_0:=bodyOf Tryz.f101
def run101{args:List V}{st:St}(ha:args.length≤13):=a_1 (T:=tb) (fid:=101) (st:=st) (by rw[a_];exact Tryz.func101) (by rw[a_];rfl) (c:=c101_0) (rs:= #[.tmp 2]) rfl rfl rfl ha
def c101_2:=kid c101_0 1
noncomputable def L101_1:Lt (kid c101_0 0):= .mk _
noncomputable def L101_3:Lt (kid c101_2 0):= .mk _
theorem S101:D tb c101_0=D tb (.seq (Rg L101_1) c101_2)∧D tb c101_2=D tb (.seq (Rg L101_3) .ret):=⟨rfl,rfl⟩
def c133_0:=bodyOf Tryz.f133
def run133{args:List V}{st:St}(ha:args.length≤19):=b_1 (T:=tb) (fid:=133) (st:=st) (by rw[a_];exact Tryz.func133) (by rw[a_];rfl) (c:=c133_0) (rs:= #[.tmp 4]) rfl rfl rfl ha
def c133_2:=kid c133_0 1
def c133_3:=kid c133_2 0
def c133_5:=kid c133_3 1
def c133_6:=kid c133_5 0
def c133_7:=kid c133_6 0
def c133_9:=kid c133_7 1
def c133_10:=kid c133_9 0
def c133_13:=kid c133_9 1
def c133_14:=kid c133_13 0
def c133_15:=kid c133_14 0
def c133_17:=kid c133_15 1
def c133_19:=kid c133_17 1
def c133_20:=kid c133_19 0
def c133_25:=kid c133_2 1
theorem p133_6:D tb c133_6 rd 19 f m st=loopK tb rd c133_6 19 f m st fun e fr st=>some (e,fr,st):=a_8
theorem e133_6:c133_6= .loop c133_7:=rfl
theorem w133_6:writes c133_7=some [9,10,5,11,12,13,14,15,16,17,4,18,8]:=by kernel_rfl
noncomputable def L133_1:Lt (kid c133_0 0):= .mk _
noncomputable def L133_4:Lt (kid c133_3 0):= .mk _
noncomputable def L133_8:Lt (kid c133_7 0):= .mk _
noncomputable def L133_16:Lt (kid c133_15 0):= .mk _
noncomputable def L133_18:Lt (kid c133_17 0):= .mk _
noncomputable def L133_21:Lt (kid c133_20 0):= .mk _
noncomputable def L133_24:Lt (kid c133_13 1):= .mk _
noncomputable def L133_26:Lt (kid c133_25 0):= .mk _
theorem S133:D tb c133_0=D tb (.seq (Rg L133_1) c133_2)∧D tb c133_2=D tb (.seq c133_3 c133_25)∧D tb c133_3=D tb (.seq (Rg L133_4) c133_5)∧D tb c133_5=D tb (.block 0 c133_6)∧D tb c133_7=D tb (.seq (Rg L133_8) c133_9)∧D tb c133_9=D tb (.seq c133_10 c133_13)∧D tb c133_10=D tb (.cond (.tmp 9) .skip (.exit 0))∧D tb c133_13=D tb (.seq c133_14 (Rg L133_24))∧D tb c133_14=D tb (.block 1 c133_15)∧D tb c133_15=D tb (.seq (Rg L133_16) c133_17)∧D tb c133_17=D tb (.seq (Rg L133_18) c133_19)∧D tb c133_19=D tb (.cond (.tmp 16) c133_20 .skip)∧D tb c133_20=D tb (.seq (Rg L133_21) .ret)∧D tb c133_25=D tb (.seq (Rg L133_26) .ret):=⟨rfl,rfl,rfl,rfl,rfl,rfl,rfl,rfl,rfl,rfl,rfl,rfl,rfl,rfl⟩
def c138_0:=bodyOf Tryz.f138
def run138{args:List V}{st:St}(ha:args.length≤11):=a_1 (T:=tb) (fid:=138) (st:=st) (by rw[a_];exact Tryz.func138) (by rw[a_];rfl) (c:=c138_0) (rs:= #[.tmp 4, .tmp 5]) rfl rfl rfl ha
def c138_2:=kid c138_0 1
noncomputable def L138_1:Lt (kid c138_0 0):= .mk _
noncomputable def L138_3:Lt (kid c138_2 0):= .mk _
theorem S138:D tb c138_0=D tb (.seq (Rg L138_1) c138_2)∧D tb c138_2=D tb (.seq (Rg L138_3) .ret):=⟨rfl,rfl⟩
def c139_0:=bodyOf Tryz.f139
def run139{args:List V}{st:St}(ha:args.length≤18):=a_1 (T:=tb) (fid:=139) (st:=st) (by rw[a_];exact Tryz.func139) (by rw[a_];rfl) (c:=c139_0) (rs:= #[.tmp 4]) rfl rfl rfl ha
def c139_2:=kid c139_0 1
noncomputable def L139_1:Lt (kid c139_0 0):= .mk _
noncomputable def L139_3:Lt (kid c139_2 0):= .mk _
theorem S139:D tb c139_0=D tb (.seq (Rg L139_1) c139_2)∧D tb c139_2=D tb (.seq (Rg L139_3) .ret):=⟨rfl,rfl⟩
def c141_0:=bodyOf Tryz.f141
def run141{args:List V}{st:St}(ha:args.length≤9):=a_1 (T:=tb) (fid:=141) (st:=st) (by rw[a_];exact Tryz.func141) (by rw[a_];rfl) (c:=c141_0) (rs:= #[.tmp 2]) rfl rfl rfl ha
def c141_2:=kid c141_0 1
noncomputable def L141_1:Lt (kid c141_0 0):= .mk _
noncomputable def L141_3:Lt (kid c141_2 0):= .mk _
theorem S141:D tb c141_0=D tb (.seq (Rg L141_1) c141_2)∧D tb c141_2=D tb (.seq (Rg L141_3) .ret):=⟨rfl,rfl⟩
def c175_0:=bodyOf Tryz.f175
def run175{args:List V}{st:St}(ha:args.length≤15):=a_1 (T:=tb) (fid:=175) (st:=st) (by rw[a_];exact Tryz.func175) (by rw[a_];rfl) (c:=c175_0) (rs:= #[.tmp 4, .tmp 5]) rfl rfl rfl ha
def c175_2:=kid c175_0 1
def c175_3:=kid c175_2 0
def c175_5:=kid c175_3 1
def c175_6:=kid c175_5 0
def c175_10:=kid c175_2 1
noncomputable def L175_1:Lt (kid c175_0 0):= .mk _
noncomputable def L175_4:Lt (kid c175_3 0):= .mk _
noncomputable def L175_7:Lt (kid c175_6 0):= .mk _
noncomputable def L175_11:Lt (kid c175_10 0):= .mk _
theorem S175:D tb c175_0=D tb (.seq (Rg L175_1) c175_2)∧D tb c175_2=D tb (.seq c175_3 c175_10)∧D tb c175_3=D tb (.seq (Rg L175_4) c175_5)∧D tb c175_5=D tb (.cond (.tmp 9) c175_6 .skip)∧D tb c175_6=D tb (.seq (Rg L175_7) .ret)∧D tb c175_10=D tb (.seq (Rg L175_11) .ret):=⟨rfl,rfl,rfl,rfl,rfl,rfl⟩
end
end Go.Proofs.YtghhphdkojjalaaGreatDoor
namespace Go.Proofs.YtghhphdkojjalaaGreatDoor
noncomputable section
open Go.Abs
set_option maxRecDepth 1000000
set_option linter.unusedSimpArgs false
variable {rd:Option Nat} {f:Nat→V} {m:List Nat} {st:St}
def c10_0:=bodyOf Tryz.f10
def run10{args:List V}{st:St}(ha:args.length≤177):=a_1 (T:=tb) (fid:=10) (st:=st) (by rw[a_];exact Tryz.func10) (by rw[a_];rfl) (c:=c10_0) (rs:= #[.tmp 2]) rfl rfl rfl ha
def c10_2:=kid c10_0 1
def c10_4:=kid c10_2 1
def c10_5:=kid c10_4 0
def c10_7:=kid c10_5 1
def c10_8:=kid c10_7 0
def c10_12:=kid c10_4 1
def c10_13:=kid c10_12 0
def c10_15:=kid c10_13 1
def c10_16:=kid c10_15 0
def c10_17:=kid c10_16 0
def c10_18:=kid c10_17 0
def c10_20:=kid c10_18 1
def c10_23:=kid c10_17 1
def c10_24:=kid c10_23 0
def c10_27:=kid c10_12 1
def c10_28:=kid c10_27 0
def c10_30:=kid c10_28 1
def c10_31:=kid c10_30 0
def c10_32:=kid c10_31 0
def c10_33:=kid c10_32 0
def c10_35:=kid c10_33 1
def c10_38:=kid c10_32 1
def c10_39:=kid c10_38 0
def c10_42:=kid c10_27 1
def c10_43:=kid c10_42 0
def c10_45:=kid c10_43 1
def c10_46:=kid c10_45 0
def c10_47:=kid c10_46 0
def c10_48:=kid c10_47 0
def c10_50:=kid c10_48 1
def c10_53:=kid c10_47 1
def c10_54:=kid c10_53 0
def c10_55:=kid c10_54 0
def c10_57:=kid c10_55 1
def c10_59:=kid c10_57 1
def c10_60:=kid c10_59 0
def c10_62:=kid c10_60 1
def c10_63:=kid c10_62 0
def c10_67:=kid c10_59 1
def c10_68:=kid c10_67 0
def c10_70:=kid c10_68 1
def c10_71:=kid c10_70 0
def c10_72:=kid c10_71 0
def c10_73:=kid c10_72 0
def c10_75:=kid c10_73 1
def c10_78:=kid c10_72 1
def c10_79:=kid c10_78 0
def c10_80:=kid c10_79 0
noncomputable def o10_81:=opsOf (kid c10_80 0)
def c10_82:=kid c10_80 1
def c10_83:=kid c10_82 0
def c10_85:=kid c10_83 1
def c10_86:=kid c10_85 0
def c10_90:=kid c10_82 1
def c10_92:=kid c10_90 1
def c10_93:=kid c10_92 0
def c10_94:=kid c10_93 0
def c10_95:=kid c10_94 0
def c10_97:=kid c10_95 1
def c10_100:=kid c10_94 1
def c10_101:=kid c10_100 0
def c10_105:=kid c10_67 1
def c10_107:=kid c10_105 1
def c10_109:=kid c10_107 1
def c10_110:=kid c10_109 0
def c10_111:=kid c10_110 0
def c10_112:=kid c10_111 0
def c10_114:=kid c10_112 1
def c10_117:=kid c10_111 1
def c10_118:=kid c10_117 0
def c10_122:=kid c10_42 1
theorem p10_16:D tb c10_16 rd 177 f m st=loopK tb rd c10_16 177 f m st fun e fr st=>some (e,fr,st):=a_8
theorem e10_16:c10_16= .loop c10_17:=rfl
theorem w10_16:writes c10_17=some [25,26,27,28,29,32,33,34,35,36,37,38,39,40,3,30,31,4]:=by kernel_rfl
theorem p10_31:D tb c10_31 rd 177 f m st=loopK tb rd c10_31 177 f m st fun e fr st=>some (e,fr,st):=a_8
theorem e10_31:c10_31= .loop c10_32:=rfl
theorem w10_31:writes c10_32=some [41,42,43,44,45,48,49,50,51,52,53,54,55,56,3,46,47,5]:=by kernel_rfl
theorem p10_46:D tb c10_46 rd 177 f m st=loopK tb rd c10_46 177 f m st fun e fr st=>some (e,fr,st):=a_8
theorem e10_46:c10_46= .loop c10_47:=rfl
theorem w10_46:writes c10_47=some [57,58,59,60,61,64,65,66,67,68,7,69,70,71,72,73,74,75,76,77,78,79,80,81,3,82,83,2,8,84,85,86,87,88,91,92,93,94,95,96,97,98,99,100,101,102,103,104,105,106,107,108,109,110,111,112,113,114,115,116,117,118,119,120,121,122,123,124,125,126,3,127,128,2,9,129,130,131,132,133,134,135,136,137,140,141,142,143,144,145,146,147,148,149,150,151,152,3,138,139,9,89,90,8,153,154,10,11,155,156,157,158,161,162,163,164,165,166,167,168,3,159,160,11,62,63,6]:=by kernel_rfl
theorem p10_71:D tb c10_71 rd 177 f m st=loopK tb rd c10_71 177 f m st fun e fr st=>some (e,fr,st):=a_8
theorem e10_71:c10_71= .loop c10_72:=rfl
theorem w10_71:writes c10_72=some [84,85,86,87,88,91,92,93,94,95,96,97,98,99,100,101,102,103,104,105,106,107,108,109,110,111,112,113,114,115,116,117,118,119,120,121,122,123,124,125,126,3,127,128,2,9,129,130,131,132,133,134,135,136,137,140,141,142,143,144,145,146,147,148,149,150,151,152,3,138,139,9,89,90,8]:=by kernel_rfl
noncomputable def l10_81:{l:List DStep//drawAt o10_81 [(0,0),(1,0),(2,2),(3,0),(4,14),(5,30),(6,62),(7,126),(8,0),(9,256),(10,0),(11,1792),(12,3840),(13,7936),(14,16128),(15,32512),(16,65534),(17,0),(18,131072),(19,0),(20,917504),(21,1966080),(22,4063232),(23,8257536),(24,16646144),(25,33554430),(26,0),(27,67108864),(28,0),(29,469762048),(30,1006632960),(31,2080374784),(32,4227858432),(33,8522825728),(34,17179869182),(35,34359738367),(36,68719476735)]=l}:=by refine⟨?_,?h⟩;case h=>simp only[drawAt,entsAt,o10_81,c10_80,c10_79,c10_78,c10_72,c10_71,c10_70,c10_68,c10_67,c10_59,c10_57,c10_55,c10_54,c10_53,c10_47,c10_46,c10_45,c10_43,c10_42,c10_27,c10_12,c10_4,c10_2,c10_0,opsOf,kid,bodyOf,Tryz.f10,Option.getD_some,List.map,stepOf,Option.map,List.getElem?_toArray,List.getElem?_cons_succ,List.getElem?_cons_zero,Option.bind_some];rfl
theorem q10_81:D tb (.region 22 o10_81 true) rd 177 f m st=regB (evDraws tb (run tb) l10_81.1 [] (mk 177 f m) st):=o_8 [(0,0),(1,0),(2,2),(3,0),(4,14),(5,30),(6,62),(7,126),(8,0),(9,256),(10,0),(11,1792),(12,3840),(13,7936),(14,16128),(15,32512),(16,65534),(17,0),(18,131072),(19,0),(20,917504),(21,1966080),(22,4063232),(23,8257536),(24,16646144),(25,33554430),(26,0),(27,67108864),(28,0),(29,469762048),(30,1006632960),(31,2080374784),(32,4227858432),(33,8522825728),(34,17179869182),(35,34359738367),(36,68719476735)] (by kernel_rfl) l10_81.2
theorem p10_93:D tb c10_93 rd 177 f m st=loopK tb rd c10_93 177 f m st fun e fr st=>some (e,fr,st):=a_8
theorem e10_93:c10_93= .loop c10_94:=rfl
theorem w10_93:writes c10_94=some [129,130,131,132,133,134,135,136,137,140,141,142,143,144,145,146,147,148,149,150,151,152,3,138,139,9]:=by kernel_rfl
theorem p10_110:D tb c10_110 rd 177 f m st=loopK tb rd c10_110 177 f m st fun e fr st=>some (e,fr,st):=a_8
theorem e10_110:c10_110= .loop c10_111:=rfl
theorem w10_110:writes c10_111=some [155,156,157,158,161,162,163,164,165,166,167,168,3,159,160,11]:=by kernel_rfl
noncomputable def L10_1:Lt (kid c10_0 0):= .mk _
noncomputable def L10_3:Lt (kid c10_2 0):= .mk _
noncomputable def L10_6:Lt (kid c10_5 0):= .mk _
noncomputable def L10_9:Lt (kid c10_8 0):= .mk _
noncomputable def L10_14:Lt (kid c10_13 0):= .mk _
noncomputable def L10_19:Lt (kid c10_18 0):= .mk _
noncomputable def L10_25:Lt (kid c10_24 0):= .mk _
noncomputable def L10_26:Lt (kid c10_23 1):= .mk _
noncomputable def L10_29:Lt (kid c10_28 0):= .mk _
noncomputable def L10_34:Lt (kid c10_33 0):= .mk _
noncomputable def L10_40:Lt (kid c10_39 0):= .mk _
noncomputable def L10_41:Lt (kid c10_38 1):= .mk _
noncomputable def L10_44:Lt (kid c10_43 0):= .mk _
noncomputable def L10_49:Lt (kid c10_48 0):= .mk _
noncomputable def L10_56:Lt (kid c10_55 0):= .mk _
noncomputable def L10_58:Lt (kid c10_57 0):= .mk _
noncomputable def L10_61:Lt (kid c10_60 0):= .mk _
noncomputable def L10_64:Lt (kid c10_63 0):= .mk _
noncomputable def L10_69:Lt (kid c10_68 0):= .mk _
noncomputable def L10_74:Lt (kid c10_73 0):= .mk _
noncomputable def L10_84:Lt (kid c10_83 0):= .mk _
noncomputable def L10_87:Lt (kid c10_86 0):= .mk _
noncomputable def L10_91:Lt (kid c10_90 0):= .mk _
noncomputable def L10_96:Lt (kid c10_95 0):= .mk _
noncomputable def L10_102:Lt (kid c10_101 0):= .mk _
noncomputable def L10_103:Lt (kid c10_100 1):= .mk _
noncomputable def L10_104:Lt (kid c10_78 1):= .mk _
noncomputable def L10_106:Lt (kid c10_105 0):= .mk _
noncomputable def L10_108:Lt (kid c10_107 0):= .mk _
noncomputable def L10_113:Lt (kid c10_112 0):= .mk _
noncomputable def L10_119:Lt (kid c10_118 0):= .mk _
noncomputable def L10_120:Lt (kid c10_117 1):= .mk _
noncomputable def L10_121:Lt (kid c10_53 1):= .mk _
noncomputable def L10_123:Lt (kid c10_122 0):= .mk _
theorem S10:D tb c10_0=D tb (.seq (Rg L10_1) c10_2)∧D tb c10_2=D tb (.seq (Rg L10_3) c10_4)∧D tb c10_4=D tb (.seq c10_5 c10_12)∧D tb c10_5=D tb (.seq (Rg L10_6) c10_7)∧D tb c10_7=D tb (.cond (.tmp 24) c10_8 .skip)∧D tb c10_8=D tb (.seq (Rg L10_9) .ret)∧D tb c10_12=D tb (.seq c10_13 c10_27)∧D tb c10_13=D tb (.seq (Rg L10_14) c10_15)∧D tb c10_15=D tb (.block 0 c10_16)∧D tb c10_17=D tb (.seq c10_18 c10_23)∧D tb c10_18=D tb (.seq (Rg L10_19) c10_20)∧D tb c10_20=D tb (.cond (.tmp 29) .skip (.exit 0))∧D tb c10_23=D tb (.seq c10_24 (Rg L10_26))∧D tb c10_24=D tb (.block 1 (Rg L10_25))∧D tb c10_27=D tb (.seq c10_28 c10_42)∧D tb c10_28=D tb (.seq (Rg L10_29) c10_30)∧D tb c10_30=D tb (.block 2 c10_31)∧D tb c10_32=D tb (.seq c10_33 c10_38)∧D tb c10_33=D tb (.seq (Rg L10_34) c10_35)∧D tb c10_35=D tb (.cond (.tmp 45) .skip (.exit 2))∧D tb c10_38=D tb (.seq c10_39 (Rg L10_41))∧D tb c10_39=D tb (.block 3 (Rg L10_40))∧D tb c10_42=D tb (.seq c10_43 c10_122)∧D tb c10_43=D tb (.seq (Rg L10_44) c10_45)∧D tb c10_45=D tb (.block 4 c10_46)∧D tb c10_47=D tb (.seq c10_48 c10_53)∧D tb c10_48=D tb (.seq (Rg L10_49) c10_50)∧D tb c10_50=D tb (.cond (.tmp 61) .skip (.exit 4))∧D tb c10_53=D tb (.seq c10_54 (Rg L10_121))∧D tb c10_54=D tb (.block 5 c10_55)∧D tb c10_55=D tb (.seq (Rg L10_56) c10_57)∧D tb c10_57=D tb (.seq (Rg L10_58) c10_59)∧D tb c10_59=D tb (.seq c10_60 c10_67)∧D tb c10_60=D tb (.seq (Rg L10_61) c10_62)∧D tb c10_62=D tb (.cond (.tmp 83) c10_63 .skip)∧D tb c10_63=D tb (.seq (Rg L10_64) .ret)∧D tb c10_67=D tb (.seq c10_68 c10_105)∧D tb c10_68=D tb (.seq (Rg L10_69) c10_70)∧D tb c10_70=D tb (.block 6 c10_71)∧D tb c10_72=D tb (.seq c10_73 c10_78)∧D tb c10_73=D tb (.seq (Rg L10_74) c10_75)∧D tb c10_75=D tb (.cond (.tmp 88) .skip (.exit 6))∧D tb c10_78=D tb (.seq c10_79 (Rg L10_104))∧D tb c10_79=D tb (.block 7 c10_80)∧D tb c10_80=D tb (.seq (.region 22 o10_81 true) c10_82)∧D tb c10_82=D tb (.seq c10_83 c10_90)∧D tb c10_83=D tb (.seq (Rg L10_84) c10_85)∧D tb c10_85=D tb (.cond (.tmp 128) c10_86 .skip)∧D tb c10_86=D tb (.seq (Rg L10_87) .ret)∧D tb c10_90=D tb (.seq (Rg L10_91) c10_92)∧D tb c10_92=D tb (.block 8 c10_93)∧D tb c10_94=D tb (.seq c10_95 c10_100)∧D tb c10_95=D tb (.seq (Rg L10_96) c10_97)∧D tb c10_97=D tb (.cond (.tmp 137) .skip (.exit 8))∧D tb c10_100=D tb (.seq c10_101 (Rg L10_103))∧D tb c10_101=D tb (.block 9 (Rg L10_102))∧D tb c10_105=D tb (.seq (Rg L10_106) c10_107)∧D tb c10_107=D tb (.seq (Rg L10_108) c10_109)∧D tb c10_109=D tb (.block 10 c10_110)∧D tb c10_111=D tb (.seq c10_112 c10_117)∧D tb c10_112=D tb (.seq (Rg L10_113) c10_114)∧D tb c10_114=D tb (.cond (.tmp 158) .skip (.exit 10))∧D tb c10_117=D tb (.seq c10_118 (Rg L10_120))∧D tb c10_118=D tb (.block 11 (Rg L10_119))∧D tb c10_122=D tb (.seq (Rg L10_123) .ret):=⟨rfl,rfl,rfl,rfl,rfl,rfl,rfl,rfl,rfl,rfl,rfl,rfl,rfl,rfl,rfl,rfl,rfl,rfl,rfl,rfl,rfl,rfl,rfl,rfl,rfl,rfl,rfl,rfl,rfl,rfl,rfl,rfl,rfl,rfl,rfl,rfl,rfl,rfl,rfl,rfl,rfl,rfl,rfl,rfl,rfl,rfl,rfl,rfl,rfl,rfl,rfl,rfl,rfl,rfl,rfl,rfl,rfl,rfl,rfl,rfl,rfl,rfl,rfl,rfl,rfl⟩
def c32_0:=bodyOf Tryz.f32
def run32{args:List V}{st:St}(ha:args.length≤253):=a_1 (T:=tb) (fid:=32) (st:=st) (by rw[a_];exact Tryz.func32) (by rw[a_];rfl) (c:=c32_0) (rs:= #[.tmp 2]) rfl rfl rfl ha
def c32_2:=kid c32_0 1
def c32_4:=kid c32_2 1
def c32_5:=kid c32_4 0
def c32_7:=kid c32_5 1
def c32_8:=kid c32_7 0
def c32_9:=kid c32_8 0
def c32_10:=kid c32_9 0
def c32_12:=kid c32_10 1
def c32_15:=kid c32_9 1
def c32_16:=kid c32_15 0
def c32_17:=kid c32_16 0
noncomputable def o32_19:=opsOf (kid c32_17 1)
def c32_21:=kid c32_4 1
def c32_23:=kid c32_21 1
def c32_24:=kid c32_23 0
def c32_26:=kid c32_24 1
def c32_27:=kid c32_26 0
def c32_28:=kid c32_27 0
def c32_29:=kid c32_28 0
def c32_31:=kid c32_29 1
def c32_34:=kid c32_28 1
def c32_35:=kid c32_34 0
noncomputable def o32_36:=opsOf (kid c32_35 0)
def c32_38:=kid c32_23 1
def c32_40:=kid c32_38 1
def c32_41:=kid c32_40 0
def c32_43:=kid c32_41 1
def c32_44:=kid c32_43 0
def c32_45:=kid c32_44 0
def c32_46:=kid c32_45 0
def c32_48:=kid c32_46 1
def c32_51:=kid c32_45 1
def c32_52:=kid c32_51 0
def c32_53:=kid c32_52 0
def c32_55:=kid c32_53 1
noncomputable def o32_56:=opsOf (kid c32_55 0)
def c32_57:=kid c32_55 1
def c32_59:=kid c32_57 1
def c32_60:=kid c32_59 0
def c32_61:=kid c32_60 0
def c32_62:=kid c32_61 0
def c32_64:=kid c32_62 1
def c32_67:=kid c32_61 1
def c32_68:=kid c32_67 0
def c32_69:=kid c32_68 0
def c32_71:=kid c32_69 1
noncomputable def o32_72:=opsOf (kid c32_71 0)
def c32_73:=kid c32_71 1
def c32_74:=kid c32_73 0
def c32_76:=kid c32_74 1
def c32_77:=kid c32_76 0
def c32_78:=kid c32_77 0
def c32_79:=kid c32_78 0
def c32_81:=kid c32_79 1
def c32_84:=kid c32_78 1
def c32_85:=kid c32_84 0
def c32_86:=kid c32_85 0
noncomputable def o32_88:=opsOf (kid c32_86 1)
def c32_90:=kid c32_73 1
def c32_92:=kid c32_90 1
noncomputable def o32_93:=opsOf (kid c32_92 0)
def c32_94:=kid c32_92 1
def c32_96:=kid c32_94 1
def c32_97:=kid c32_96 0
def c32_98:=kid c32_97 0
def c32_99:=kid c32_98 0
def c32_101:=kid c32_99 1
def c32_104:=kid c32_98 1
def c32_105:=kid c32_104 0
noncomputable def o32_106:=opsOf (kid c32_105 0)
def c32_110:=kid c32_40 1
theorem p32_8:D tb c32_8 rd 253 f m st=loopK tb rd c32_8 253 f m st fun e fr st=>some (e,fr,st):=a_8
theorem e32_8:c32_8= .loop c32_9:=rfl
theorem w32_8:writes c32_9=some [21,22,23,24,25,28,29,30,31,32,5,33,34,35,36,37,38,39,40,41,42,43,44,45,46,47,48,49,3,26,27,4]:=by kernel_rfl
noncomputable def l32_19:{l:List DStep//drawAt o32_19 [(0,0),(1,0),(2,2),(4,0),(5,16),(8,0),(9,256),(12,0),(13,4096),(3,6),(6,62),(7,126),(10,894),(11,2046),(14,14206),(15,32766),(16,65535),(17,131071)]=l}:=by refine⟨?_,?h⟩;case h=>simp only[drawAt,entsAt,o32_19,c32_17,c32_16,c32_15,c32_9,c32_8,c32_7,c32_5,c32_4,c32_2,c32_0,opsOf,kid,bodyOf,Tryz.f32,Option.getD_some,List.map,stepOf,Option.map,List.getElem?_toArray,List.getElem?_cons_succ,List.getElem?_cons_zero,Option.bind_some];rfl
theorem q32_19:D tb (.region 6 o32_19 true) rd 253 f m st=regB (evDraws tb (run tb) l32_19.1 [] (mk 253 f m) st):=o_8 [(0,0),(1,0),(2,2),(4,0),(5,16),(8,0),(9,256),(12,0),(13,4096),(3,6),(6,62),(7,126),(10,894),(11,2046),(14,14206),(15,32766),(16,65535),(17,131071)] (by kernel_rfl) l32_19.2
theorem p32_27:D tb c32_27 rd 253 f m st=loopK tb rd c32_27 253 f m st fun e fr st=>some (e,fr,st):=a_8
theorem e32_27:c32_27= .loop c32_28:=rfl
theorem w32_27:writes c32_28=some [58,59,60,61,62,65,66,67,68,69,70,71,72,73,74,75,76,77,78,79,80,81,3,63,64,6]:=by kernel_rfl
noncomputable def l32_36:{l:List DStep//drawAt o32_36 [(0,0),(1,0),(2,2),(3,0),(4,14),(5,30),(6,62),(8,0),(9,256),(10,0),(11,1792),(12,3840),(13,7936),(7,126),(14,16382),(15,32766),(16,65535),(17,131071)]=l}:=by refine⟨?_,?h⟩;case h=>simp only[drawAt,entsAt,o32_36,c32_35,c32_34,c32_28,c32_27,c32_26,c32_24,c32_23,c32_21,c32_4,c32_2,c32_0,opsOf,kid,bodyOf,Tryz.f32,Option.getD_some,List.map,stepOf,Option.map,List.getElem?_toArray,List.getElem?_cons_succ,List.getElem?_cons_zero,Option.bind_some];rfl
theorem q32_36:D tb (.region 11 o32_36 true) rd 253 f m st=regB (evDraws tb (run tb) l32_36.1 [] (mk 253 f m) st):=o_8 [(0,0),(1,0),(2,2),(3,0),(4,14),(5,30),(6,62),(8,0),(9,256),(10,0),(11,1792),(12,3840),(13,7936),(7,126),(14,16382),(15,32766),(16,65535),(17,131071)] (by kernel_rfl) l32_36.2
theorem p32_44:D tb c32_44 rd 253 f m st=loopK tb rd c32_44 253 f m st fun e fr st=>some (e,fr,st):=a_8
theorem e32_44:c32_44= .loop c32_45:=rfl
theorem w32_44:writes c32_45=some [90,91,92,93,94,97,98,99,100,101,8,102,103,104,105,106,107,108,109,110,111,112,113,114,115,116,117,118,119,120,121,122,123,124,125,3,9,126,127,128,129,130,133,134,135,136,137,10,138,139,140,141,142,143,144,145,146,147,148,149,3,11,150,151,152,153,154,157,158,159,160,161,12,162,163,164,165,166,167,168,169,170,171,172,173,174,175,176,177,178,179,180,181,182,183,184,185,186,187,188,3,155,156,11,189,190,13,191,192,193,194,195,196,197,198,199,200,201,202,203,204,205,206,207,208,209,210,211,212,213,214,215,216,217,218,219,3,14,220,221,222,223,224,227,228,229,230,231,232,233,234,235,236,237,238,239,240,241,242,243,244,245,246,247,248,249,250,251,3,225,226,14,131,132,9,95,96,7]:=by kernel_rfl
noncomputable def l32_56:{l:List DStep//drawAt o32_56 [(0,0),(1,0),(2,2),(4,0),(5,16),(8,0),(9,256),(12,0),(13,4096),(16,0),(17,65536),(18,196608),(19,458752),(3,6),(6,62),(7,126),(10,894),(11,2046),(14,14206),(15,32766),(20,1013630),(21,2097150),(22,4194302),(23,8388607),(24,16777215)]=l}:=by refine⟨?_,?h⟩;case h=>simp only[drawAt,entsAt,o32_56,c32_55,c32_53,c32_52,c32_51,c32_45,c32_44,c32_43,c32_41,c32_40,c32_38,c32_23,c32_21,c32_4,c32_2,c32_0,opsOf,kid,bodyOf,Tryz.f32,Option.getD_some,List.map,stepOf,Option.map,List.getElem?_toArray,List.getElem?_cons_succ,List.getElem?_cons_zero,Option.bind_some];rfl
theorem q32_56:D tb (.region 17 o32_56 true) rd 253 f m st=regB (evDraws tb (run tb) l32_56.1 [] (mk 253 f m) st):=o_8 [(0,0),(1,0),(2,2),(4,0),(5,16),(8,0),(9,256),(12,0),(13,4096),(16,0),(17,65536),(18,196608),(19,458752),(3,6),(6,62),(7,126),(10,894),(11,2046),(14,14206),(15,32766),(20,1013630),(21,2097150),(22,4194302),(23,8388607),(24,16777215)] (by kernel_rfl) l32_56.2
theorem p32_60:D tb c32_60 rd 253 f m st=loopK tb rd c32_60 253 f m st fun e fr st=>some (e,fr,st):=a_8
theorem e32_60:c32_60= .loop c32_61:=rfl
theorem w32_60:writes c32_61=some [126,127,128,129,130,133,134,135,136,137,10,138,139,140,141,142,143,144,145,146,147,148,149,3,11,150,151,152,153,154,157,158,159,160,161,12,162,163,164,165,166,167,168,169,170,171,172,173,174,175,176,177,178,179,180,181,182,183,184,185,186,187,188,3,155,156,11,189,190,13,191,192,193,194,195,196,197,198,199,200,201,202,203,204,205,206,207,208,209,210,211,212,213,214,215,216,217,218,219,3,14,220,221,222,223,224,227,228,229,230,231,232,233,234,235,236,237,238,239,240,241,242,243,244,245,246,247,248,249,250,251,3,225,226,14,131,132,9]:=by kernel_rfl
noncomputable def l32_72:{l:List DStep//drawAt o32_72 [(0,0),(1,0),(2,2),(4,0),(5,16),(6,48),(7,112),(3,6),(8,254),(9,510),(10,1022),(11,2047),(12,4095)]=l}:=by refine⟨?_,?h⟩;case h=>simp only[drawAt,entsAt,o32_72,c32_71,c32_69,c32_68,c32_67,c32_61,c32_60,c32_59,c32_57,c32_55,c32_53,c32_52,c32_51,c32_45,c32_44,c32_43,c32_41,c32_40,c32_38,c32_23,c32_21,c32_4,c32_2,c32_0,opsOf,kid,bodyOf,Tryz.f32,Option.getD_some,List.map,stepOf,Option.map,List.getElem?_toArray,List.getElem?_cons_succ,List.getElem?_cons_zero,Option.bind_some];rfl
theorem q32_72:D tb (.region 22 o32_72 true) rd 253 f m st=regB (evDraws tb (run tb) l32_72.1 [] (mk 253 f m) st):=o_8 [(0,0),(1,0),(2,2),(4,0),(5,16),(6,48),(7,112),(3,6),(8,254),(9,510),(10,1022),(11,2047),(12,4095)] (by kernel_rfl) l32_72.2
theorem p32_77:D tb c32_77 rd 253 f m st=loopK tb rd c32_77 253 f m st fun e fr st=>some (e,fr,st):=a_8
theorem e32_77:c32_77= .loop c32_78:=rfl
theorem w32_77:writes c32_78=some [150,151,152,153,154,157,158,159,160,161,12,162,163,164,165,166,167,168,169,170,171,172,173,174,175,176,177,178,179,180,181,182,183,184,185,186,187,188,3,155,156,11]:=by kernel_rfl
noncomputable def l32_88:{l:List DStep//drawAt o32_88 [(0,0),(1,0),(2,2),(4,0),(5,16),(6,48),(9,0),(10,512),(14,0),(15,16384),(18,0),(19,262144),(22,0),(23,4194304),(3,6),(7,126),(8,254),(11,1790),(12,4094),(13,8190),(16,52990),(17,131070),(20,904958),(21,2097150),(24,14536446),(25,33554430),(26,67108863),(27,134217727)]=l}:=by refine⟨?_,?h⟩;case h=>simp only[drawAt,entsAt,o32_88,c32_86,c32_85,c32_84,c32_78,c32_77,c32_76,c32_74,c32_73,c32_71,c32_69,c32_68,c32_67,c32_61,c32_60,c32_59,c32_57,c32_55,c32_53,c32_52,c32_51,c32_45,c32_44,c32_43,c32_41,c32_40,c32_38,c32_23,c32_21,c32_4,c32_2,c32_0,opsOf,kid,bodyOf,Tryz.f32,Option.getD_some,List.map,stepOf,Option.map,List.getElem?_toArray,List.getElem?_cons_succ,List.getElem?_cons_zero,Option.bind_some];rfl
theorem q32_88:D tb (.region 27 o32_88 true) rd 253 f m st=regB (evDraws tb (run tb) l32_88.1 [] (mk 253 f m) st):=o_8 [(0,0),(1,0),(2,2),(4,0),(5,16),(6,48),(9,0),(10,512),(14,0),(15,16384),(18,0),(19,262144),(22,0),(23,4194304),(3,6),(7,126),(8,254),(11,1790),(12,4094),(13,8190),(16,52990),(17,131070),(20,904958),(21,2097150),(24,14536446),(25,33554430),(26,67108863),(27,134217727)] (by kernel_rfl) l32_88.2
noncomputable def l32_93:{l:List DStep//drawAt o32_93 [(0,0),(1,0),(2,2),(4,0),(5,16),(6,48),(9,0),(10,512),(13,0),(14,8192),(17,0),(18,131072),(21,0),(22,2097152),(23,6291456),(24,14680064),(3,6),(7,126),(8,254),(11,1790),(12,4094),(15,28414),(16,65534),(19,454398),(20,1048574),(25,32435966),(26,67108862),(27,134217726),(28,268435455),(29,536870911)]=l}:=by refine⟨?_,?h⟩;case h=>simp only[drawAt,entsAt,o32_93,c32_92,c32_90,c32_73,c32_71,c32_69,c32_68,c32_67,c32_61,c32_60,c32_59,c32_57,c32_55,c32_53,c32_52,c32_51,c32_45,c32_44,c32_43,c32_41,c32_40,c32_38,c32_23,c32_21,c32_4,c32_2,c32_0,opsOf,kid,bodyOf,Tryz.f32,Option.getD_some,List.map,stepOf,Option.map,List.getElem?_toArray,List.getElem?_cons_succ,List.getElem?_cons_zero,Option.bind_some];rfl
theorem q32_93:D tb (.region 29 o32_93 true) rd 253 f m st=regB (evDraws tb (run tb) l32_93.1 [] (mk 253 f m) st):=o_8 [(0,0),(1,0),(2,2),(4,0),(5,16),(6,48),(9,0),(10,512),(13,0),(14,8192),(17,0),(18,131072),(21,0),(22,2097152),(23,6291456),(24,14680064),(3,6),(7,126),(8,254),(11,1790),(12,4094),(15,28414),(16,65534),(19,454398),(20,1048574),(25,32435966),(26,67108862),(27,134217726),(28,268435455),(29,536870911)] (by kernel_rfl) l32_93.2
theorem p32_97:D tb c32_97 rd 253 f m st=loopK tb rd c32_97 253 f m st fun e fr st=>some (e,fr,st):=a_8
theorem e32_97:c32_97= .loop c32_98:=rfl
theorem w32_97:writes c32_98=some [220,221,222,223,224,227,228,229,230,231,232,233,234,235,236,237,238,239,240,241,242,243,244,245,246,247,248,249,250,251,3,225,226,14]:=by kernel_rfl
noncomputable def l32_106:{l:List DStep//drawAt o32_106 [(0,0),(1,0),(2,2),(3,0),(4,14),(5,30),(6,62),(8,0),(9,256),(10,0),(11,1792),(12,3840),(13,7936),(16,0),(17,65536),(18,0),(19,458752),(20,983040),(21,2031616),(7,126),(14,16382),(15,32766),(22,4161534),(23,8388606),(24,16777215),(25,33554431)]=l}:=by refine⟨?_,?h⟩;case h=>simp only[drawAt,entsAt,o32_106,c32_105,c32_104,c32_98,c32_97,c32_96,c32_94,c32_92,c32_90,c32_73,c32_71,c32_69,c32_68,c32_67,c32_61,c32_60,c32_59,c32_57,c32_55,c32_53,c32_52,c32_51,c32_45,c32_44,c32_43,c32_41,c32_40,c32_38,c32_23,c32_21,c32_4,c32_2,c32_0,opsOf,kid,bodyOf,Tryz.f32,Option.getD_some,List.map,stepOf,Option.map,List.getElem?_toArray,List.getElem?_cons_succ,List.getElem?_cons_zero,Option.bind_some];rfl
theorem q32_106:D tb (.region 33 o32_106 true) rd 253 f m st=regB (evDraws tb (run tb) l32_106.1 [] (mk 253 f m) st):=o_8 [(0,0),(1,0),(2,2),(3,0),(4,14),(5,30),(6,62),(8,0),(9,256),(10,0),(11,1792),(12,3840),(13,7936),(16,0),(17,65536),(18,0),(19,458752),(20,983040),(21,2031616),(7,126),(14,16382),(15,32766),(22,4161534),(23,8388606),(24,16777215),(25,33554431)] (by kernel_rfl) l32_106.2
noncomputable def L32_1:Lt (kid c32_0 0):= .mk _
noncomputable def L32_3:Lt (kid c32_2 0):= .mk _
noncomputable def L32_6:Lt (kid c32_5 0):= .mk _
noncomputable def L32_11:Lt (kid c32_10 0):= .mk _
noncomputable def L32_18:Lt (kid c32_17 0):= .mk _
noncomputable def L32_20:Lt (kid c32_15 1):= .mk _
noncomputable def L32_22:Lt (kid c32_21 0):= .mk _
noncomputable def L32_25:Lt (kid c32_24 0):= .mk _
noncomputable def L32_30:Lt (kid c32_29 0):= .mk _
noncomputable def L32_37:Lt (kid c32_34 1):= .mk _
noncomputable def L32_39:Lt (kid c32_38 0):= .mk _
noncomputable def L32_42:Lt (kid c32_41 0):= .mk _
noncomputable def L32_47:Lt (kid c32_46 0):= .mk _
noncomputable def L32_54:Lt (kid c32_53 0):= .mk _
noncomputable def L32_58:Lt (kid c32_57 0):= .mk _
noncomputable def L32_63:Lt (kid c32_62 0):= .mk _
noncomputable def L32_70:Lt (kid c32_69 0):= .mk _
noncomputable def L32_75:Lt (kid c32_74 0):= .mk _
noncomputable def L32_80:Lt (kid c32_79 0):= .mk _
noncomputable def L32_87:Lt (kid c32_86 0):= .mk _
noncomputable def L32_89:Lt (kid c32_84 1):= .mk _
noncomputable def L32_91:Lt (kid c32_90 0):= .mk _
noncomputable def L32_95:Lt (kid c32_94 0):= .mk _
noncomputable def L32_100:Lt (kid c32_99 0):= .mk _
noncomputable def L32_107:Lt (kid c32_104 1):= .mk _
noncomputable def L32_108:Lt (kid c32_67 1):= .mk _
noncomputable def L32_109:Lt (kid c32_51 1):= .mk _
noncomputable def L32_111:Lt (kid c32_110 0):= .mk _
theorem S32:D tb c32_0=D tb (.seq (Rg L32_1) c32_2)∧D tb c32_2=D tb (.seq (Rg L32_3) c32_4)∧D tb c32_4=D tb (.seq c32_5 c32_21)∧D tb c32_5=D tb (.seq (Rg L32_6) c32_7)∧D tb c32_7=D tb (.block 0 c32_8)∧D tb c32_9=D tb (.seq c32_10 c32_15)∧D tb c32_10=D tb (.seq (Rg L32_11) c32_12)∧D tb c32_12=D tb (.cond (.tmp 25) .skip (.exit 0))∧D tb c32_15=D tb (.seq c32_16 (Rg L32_20))∧D tb c32_16=D tb (.block 1 c32_17)∧D tb c32_17=D tb (.seq (Rg L32_18) (.region 6 o32_19 true))∧D tb c32_21=D tb (.seq (Rg L32_22) c32_23)∧D tb c32_23=D tb (.seq c32_24 c32_38)∧D tb c32_24=D tb (.seq (Rg L32_25) c32_26)∧D tb c32_26=D tb (.block 2 c32_27)∧D tb c32_28=D tb (.seq c32_29 c32_34)∧D tb c32_29=D tb (.seq (Rg L32_30) c32_31)∧D tb c32_31=D tb (.cond (.tmp 62) .skip (.exit 2))∧D tb c32_34=D tb (.seq c32_35 (Rg L32_37))∧D tb c32_35=D tb (.block 3 (.region 11 o32_36 true))∧D tb c32_38=D tb (.seq (Rg L32_39) c32_40)∧D tb c32_40=D tb (.seq c32_41 c32_110)∧D tb c32_41=D tb (.seq (Rg L32_42) c32_43)∧D tb c32_43=D tb (.block 4 c32_44)∧D tb c32_45=D tb (.seq c32_46 c32_51)∧D tb c32_46=D tb (.seq (Rg L32_47) c32_48)∧D tb c32_48=D tb (.cond (.tmp 94) .skip (.exit 4))∧D tb c32_51=D tb (.seq c32_52 (Rg L32_109))∧D tb c32_52=D tb (.block 5 c32_53)∧D tb c32_53=D tb (.seq (Rg L32_54) c32_55)∧D tb c32_55=D tb (.seq (.region 17 o32_56 true) c32_57)∧D tb c32_57=D tb (.seq (Rg L32_58) c32_59)∧D tb c32_59=D tb (.block 6 c32_60)∧D tb c32_61=D tb (.seq c32_62 c32_67)∧D tb c32_62=D tb (.seq (Rg L32_63) c32_64)∧D tb c32_64=D tb (.cond (.tmp 130) .skip (.exit 6))∧D tb c32_67=D tb (.seq c32_68 (Rg L32_108))∧D tb c32_68=D tb (.block 7 c32_69)∧D tb c32_69=D tb (.seq (Rg L32_70) c32_71)∧D tb c32_71=D tb (.seq (.region 22 o32_72 true) c32_73)∧D tb c32_73=D tb (.seq c32_74 c32_90)∧D tb c32_74=D tb (.seq (Rg L32_75) c32_76)∧D tb c32_76=D tb (.block 8 c32_77)∧D tb c32_78=D tb (.seq c32_79 c32_84)∧D tb c32_79=D tb (.seq (Rg L32_80) c32_81)∧D tb c32_81=D tb (.cond (.tmp 154) .skip (.exit 8))∧D tb c32_84=D tb (.seq c32_85 (Rg L32_89))∧D tb c32_85=D tb (.block 9 c32_86)∧D tb c32_86=D tb (.seq (Rg L32_87) (.region 27 o32_88 true))∧D tb c32_90=D tb (.seq (Rg L32_91) c32_92)∧D tb c32_92=D tb (.seq (.region 29 o32_93 true) c32_94)∧D tb c32_94=D tb (.seq (Rg L32_95) c32_96)∧D tb c32_96=D tb (.block 10 c32_97)∧D tb c32_98=D tb (.seq c32_99 c32_104)∧D tb c32_99=D tb (.seq (Rg L32_100) c32_101)∧D tb c32_101=D tb (.cond (.tmp 224) .skip (.exit 10))∧D tb c32_104=D tb (.seq c32_105 (Rg L32_107))∧D tb c32_105=D tb (.block 11 (.region 33 o32_106 true))∧D tb c32_110=D tb (.seq (Rg L32_111) .ret):=⟨rfl,rfl,rfl,rfl,rfl,rfl,rfl,rfl,rfl,rfl,rfl,rfl,rfl,rfl,rfl,rfl,rfl,rfl,rfl,rfl,rfl,rfl,rfl,rfl,rfl,rfl,rfl,rfl,rfl,rfl,rfl,rfl,rfl,rfl,rfl,rfl,rfl,rfl,rfl,rfl,rfl,rfl,rfl,rfl,rfl,rfl,rfl,rfl,rfl,rfl,rfl,rfl,rfl,rfl,rfl,rfl,rfl,rfl,rfl⟩
def c39_0:=bodyOf Tryz.f39
def run39{args:List V}{st:St}(ha:args.length≤69):=a_1 (T:=tb) (fid:=39) (st:=st) (by rw[a_];exact Tryz.func39) (by rw[a_];rfl) (c:=c39_0) (rs:= #[.tmp 2]) rfl rfl rfl ha
def c39_2:=kid c39_0 1
def c39_4:=kid c39_2 1
def c39_5:=kid c39_4 0
def c39_7:=kid c39_5 1
def c39_8:=kid c39_7 0
def c39_9:=kid c39_8 0
def c39_10:=kid c39_9 0
def c39_12:=kid c39_10 1
def c39_15:=kid c39_9 1
def c39_16:=kid c39_15 0
def c39_17:=kid c39_16 0
def c39_19:=kid c39_17 1
def c39_20:=kid c39_19 0
def c39_22:=kid c39_20 1
def c39_23:=kid c39_22 0
def c39_24:=kid c39_23 0
def c39_25:=kid c39_24 0
def c39_27:=kid c39_25 1
def c39_30:=kid c39_24 1
def c39_31:=kid c39_30 0
def c39_32:=kid c39_31 0
def c39_34:=kid c39_32 1
def c39_36:=kid c39_34 1
def c39_40:=kid c39_19 1
def c39_42:=kid c39_40 1
def c39_44:=kid c39_42 1
def c39_48:=kid c39_4 1
theorem p39_8:D tb c39_8 rd 69 f m st=loopK tb rd c39_8 69 f m st fun e fr st=>some (e,fr,st):=a_8
theorem e39_8:c39_8= .loop c39_9:=rfl
theorem w39_8:writes c39_9=some [8,9,10,11,12,15,16,17,18,19,5,6,20,21,22,23,24,27,28,29,30,31,32,33,34,3,35,36,37,38,39,40,41,42,43,44,45,46,47,48,49,50,51,3,25,26,6,52,53,54,55,56,3,57,58,59,60,61,62,63,64,65,66,67,3,13,14,4]:=by kernel_rfl
theorem p39_23:D tb c39_23 rd 69 f m st=loopK tb rd c39_23 69 f m st fun e fr st=>some (e,fr,st):=a_8
theorem e39_23:c39_23= .loop c39_24:=rfl
theorem w39_23:writes c39_24=some [20,21,22,23,24,27,28,29,30,31,32,33,34,3,35,36,37,38,39,40,41,42,43,44,45,46,47,48,49,50,51,3,25,26,6]:=by kernel_rfl
noncomputable def L39_1:Lt (kid c39_0 0):= .mk _
noncomputable def L39_3:Lt (kid c39_2 0):= .mk _
noncomputable def L39_6:Lt (kid c39_5 0):= .mk _
noncomputable def L39_11:Lt (kid c39_10 0):= .mk _
noncomputable def L39_18:Lt (kid c39_17 0):= .mk _
noncomputable def L39_21:Lt (kid c39_20 0):= .mk _
noncomputable def L39_26:Lt (kid c39_25 0):= .mk _
noncomputable def L39_33:Lt (kid c39_32 0):= .mk _
noncomputable def L39_35:Lt (kid c39_34 0):= .mk _
noncomputable def L39_37:Lt (kid c39_36 0):= .mk _
noncomputable def L39_39:Lt (kid c39_30 1):= .mk _
noncomputable def L39_41:Lt (kid c39_40 0):= .mk _
noncomputable def L39_43:Lt (kid c39_42 0):= .mk _
noncomputable def L39_45:Lt (kid c39_44 0):= .mk _
noncomputable def L39_47:Lt (kid c39_15 1):= .mk _
noncomputable def L39_49:Lt (kid c39_48 0):= .mk _
theorem S39:D tb c39_0=D tb (.seq (Rg L39_1) c39_2)∧D tb c39_2=D tb (.seq (Rg L39_3) c39_4)∧D tb c39_4=D tb (.seq c39_5 c39_48)∧D tb c39_5=D tb (.seq (Rg L39_6) c39_7)∧D tb c39_7=D tb (.block 0 c39_8)∧D tb c39_9=D tb (.seq c39_10 c39_15)∧D tb c39_10=D tb (.seq (Rg L39_11) c39_12)∧D tb c39_12=D tb (.cond (.tmp 12) .skip (.exit 0))∧D tb c39_15=D tb (.seq c39_16 (Rg L39_47))∧D tb c39_16=D tb (.block 1 c39_17)∧D tb c39_17=D tb (.seq (Rg L39_18) c39_19)∧D tb c39_19=D tb (.seq c39_20 c39_40)∧D tb c39_20=D tb (.seq (Rg L39_21) c39_22)∧D tb c39_22=D tb (.block 2 c39_23)∧D tb c39_24=D tb (.seq c39_25 c39_30)∧D tb c39_25=D tb (.seq (Rg L39_26) c39_27)∧D tb c39_27=D tb (.cond (.tmp 24) .skip (.exit 2))∧D tb c39_30=D tb (.seq c39_31 (Rg L39_39))∧D tb c39_31=D tb (.block 3 c39_32)∧D tb c39_32=D tb (.seq (Rg L39_33) c39_34)∧D tb c39_34=D tb (.seq (Rg L39_35) c39_36)∧D tb c39_36=D tb (.cond (.tmp 42) (Rg L39_37) .skip)∧D tb c39_40=D tb (.seq (Rg L39_41) c39_42)∧D tb c39_42=D tb (.seq (Rg L39_43) c39_44)∧D tb c39_44=D tb (.cond (.tmp 61) (Rg L39_45) .skip)∧D tb c39_48=D tb (.seq (Rg L39_49) .ret):=⟨rfl,rfl,rfl,rfl,rfl,rfl,rfl,rfl,rfl,rfl,rfl,rfl,rfl,rfl,rfl,rfl,rfl,rfl,rfl,rfl,rfl,rfl,rfl,rfl,rfl,rfl⟩
def c46_0:=bodyOf Tryz.f46
def c46_2:=kid c46_0 1
def c46_10:=kid c46_2 1
def c46_11:=kid c46_10 0
def c46_13:=kid c46_11 1
def c46_14:=kid c46_13 0
def c46_15:=kid c46_14 0
def c46_33:=kid c46_10 1
def c46_34:=kid c46_33 0
def c46_36:=kid c46_34 1
def c46_37:=kid c46_36 0
def c46_38:=kid c46_37 0
def c46_56:=kid c46_33 1
def c46_57:=kid c46_56 0
def c46_59:=kid c46_57 1
def c46_60:=kid c46_59 0
def c46_61:=kid c46_60 0
theorem e46_14:c46_14= .loop c46_15:=rfl
theorem e46_37:c46_37= .loop c46_38:=rfl
theorem e46_60:c46_60= .loop c46_61:=rfl
def c47_0:=bodyOf Tryz.f47
def c47_2:=kid c47_0 1
def c47_3:=kid c47_2 0
def c47_5:=kid c47_3 1
def c47_6:=kid c47_5 0
def c47_7:=kid c47_6 0
theorem e47_6:c47_6= .loop c47_7:=rfl
def c50_0:=bodyOf Tryz.f50
def c50_2:=kid c50_0 1
def c50_10:=kid c50_2 1
def c50_11:=kid c50_10 0
def c50_12:=kid c50_11 0
def c50_13:=kid c50_12 0
theorem e50_12:c50_12= .loop c50_13:=rfl
def c53_0:=bodyOf Tryz.f53
def c53_2:=kid c53_0 1
def c53_4:=kid c53_2 1
def c53_28:=kid c53_4 1
def c53_30:=kid c53_28 1
def c53_31:=kid c53_30 0
def c53_33:=kid c53_31 1
def c53_34:=kid c53_33 0
def c53_35:=kid c53_34 0
theorem e53_34:c53_34= .loop c53_35:=rfl
def c58_0:=bodyOf Tryz.f58
def run58{args:List V}{st:St}(ha:args.length≤17):=a_1 (T:=tb) (fid:=58) (st:=st) (by rw[a_];exact Tryz.func58) (by rw[a_];rfl) (c:=c58_0) (rs:= #[.tmp 2]) rfl rfl rfl ha
def c58_2:=kid c58_0 1
def c58_4:=kid c58_2 1
def c58_5:=kid c58_4 0
def c58_6:=kid c58_5 0
def c58_7:=kid c58_6 0
def c58_9:=kid c58_7 1
def c58_11:=kid c58_9 1
def c58_13:=kid c58_11 1
def c58_14:=kid c58_13 0
theorem p58_5:D tb c58_5 rd 17 f m st=loopK tb rd c58_5 17 f m st fun e fr st=>some (e,fr,st):=a_8
theorem e58_5:c58_5= .loop c58_6:=rfl
theorem w58_5:writes c58_6=some [4,5,6,7,8,9,10,11,3,12,13,0,14,15,16,2]:=by kernel_rfl
noncomputable def L58_1:Lt (kid c58_0 0):= .mk _
noncomputable def L58_3:Lt (kid c58_2 0):= .mk _
noncomputable def L58_8:Lt (kid c58_7 0):= .mk _
noncomputable def L58_10:Lt (kid c58_9 0):= .mk _
noncomputable def L58_12:Lt (kid c58_11 0):= .mk _
noncomputable def L58_15:Lt (kid c58_14 0):= .mk _
theorem S58:D tb c58_0=D tb (.seq (Rg L58_1) c58_2)∧D tb c58_2=D tb (.seq (Rg L58_3) c58_4)∧D tb c58_4=D tb (.block 0 c58_5)∧D tb c58_6=D tb (.block 1 c58_7)∧D tb c58_7=D tb (.seq (Rg L58_8) c58_9)∧D tb c58_9=D tb (.seq (Rg L58_10) c58_11)∧D tb c58_11=D tb (.seq (Rg L58_12) c58_13)∧D tb c58_13=D tb (.cond (.tmp 15) c58_14 .skip)∧D tb c58_14=D tb (.seq (Rg L58_15) .ret):=⟨rfl,rfl,rfl,rfl,rfl,rfl,rfl,rfl,rfl⟩
def c59_0:=bodyOf Tryz.f59
def run59{args:List V}{st:St}(ha:args.length≤10):=a_1 (T:=tb) (fid:=59) (st:=st) (by rw[a_];exact Tryz.func59) (by rw[a_];rfl) (c:=c59_0) (rs:= #[.tmp 2]) rfl rfl rfl ha
def c59_2:=kid c59_0 1
noncomputable def L59_1:Lt (kid c59_0 0):= .mk _
noncomputable def L59_3:Lt (kid c59_2 0):= .mk _
theorem S59:D tb c59_0=D tb (.seq (Rg L59_1) c59_2)∧D tb c59_2=D tb (.seq (Rg L59_3) .ret):=⟨rfl,rfl⟩
def c60_0:=bodyOf Tryz.f60
def run60{args:List V}{st:St}(ha:args.length≤4):=a_1 (T:=tb) (fid:=60) (st:=st) (by rw[a_];exact Tryz.func60) (by rw[a_];rfl) (c:=c60_0) (rs:= #[.tmp 2]) rfl rfl rfl ha
def c60_2:=kid c60_0 1
def c60_3:=kid c60_2 0
def c60_5:=kid c60_3 1
def c60_6:=kid c60_5 0
def c60_10:=kid c60_2 1
noncomputable def L60_1:Lt (kid c60_0 0):= .mk _
noncomputable def L60_4:Lt (kid c60_3 0):= .mk _
noncomputable def L60_7:Lt (kid c60_6 0):= .mk _
noncomputable def L60_11:Lt (kid c60_10 0):= .mk _
theorem S60:D tb c60_0=D tb (.seq (Rg L60_1) c60_2)∧D tb c60_2=D tb (.seq c60_3 c60_10)∧D tb c60_3=D tb (.seq (Rg L60_4) c60_5)∧D tb c60_5=D tb (.cond (.tmp 3) c60_6 .skip)∧D tb c60_6=D tb (.seq (Rg L60_7) .ret)∧D tb c60_10=D tb (.seq (Rg L60_11) .ret):=⟨rfl,rfl,rfl,rfl,rfl,rfl⟩
def c61_0:=bodyOf Tryz.f61
def run61{args:List V}{st:St}(ha:args.length≤32):=a_1 (T:=tb) (fid:=61) (st:=st) (by rw[a_];exact Tryz.func61) (by rw[a_];rfl) (c:=c61_0) (rs:= #[.tmp 2]) rfl rfl rfl ha
def c61_2:=kid c61_0 1
def c61_4:=kid c61_2 1
def c61_5:=kid c61_4 0
def c61_7:=kid c61_5 1
def c61_8:=kid c61_7 0
def c61_9:=kid c61_8 0
def c61_10:=kid c61_9 0
def c61_12:=kid c61_10 1
def c61_15:=kid c61_9 1
def c61_16:=kid c61_15 0
noncomputable def o61_17:=opsOf (kid c61_16 0)
def c61_19:=kid c61_4 1
theorem p61_8:D tb c61_8 rd 32 f m st=loopK tb rd c61_8 32 f m st fun e fr st=>some (e,fr,st):=a_8
theorem e61_8:c61_8= .loop c61_9:=rfl
theorem w61_8:writes c61_9=some [10,11,12,13,16,17,18,19,20,21,22,23,24,25,26,27,28,29,30,3,14,15,4]:=by kernel_rfl
noncomputable def l61_17:{l:List DStep//drawAt o61_17 [(0,0),(1,0),(2,0),(3,6),(4,14),(5,30),(7,0),(8,0),(9,384),(10,896),(11,1920),(6,62),(12,4094),(13,8190),(14,16383),(15,32767)]=l}:=by refine⟨?_,?h⟩;case h=>simp only[drawAt,entsAt,o61_17,c61_16,c61_15,c61_9,c61_8,c61_7,c61_5,c61_4,c61_2,c61_0,opsOf,kid,bodyOf,Tryz.f61,Option.getD_some,List.map,stepOf,Option.map,List.getElem?_toArray,List.getElem?_cons_succ,List.getElem?_cons_zero,Option.bind_some];rfl
theorem q61_17:D tb (.region 5 o61_17 true) rd 32 f m st=regB (evDraws tb (run tb) l61_17.1 [] (mk 32 f m) st):=o_8 [(0,0),(1,0),(2,0),(3,6),(4,14),(5,30),(7,0),(8,0),(9,384),(10,896),(11,1920),(6,62),(12,4094),(13,8190),(14,16383),(15,32767)] (by kernel_rfl) l61_17.2
noncomputable def L61_1:Lt (kid c61_0 0):= .mk _
noncomputable def L61_3:Lt (kid c61_2 0):= .mk _
noncomputable def L61_6:Lt (kid c61_5 0):= .mk _
noncomputable def L61_11:Lt (kid c61_10 0):= .mk _
noncomputable def L61_18:Lt (kid c61_15 1):= .mk _
noncomputable def L61_20:Lt (kid c61_19 0):= .mk _
theorem S61:D tb c61_0=D tb (.seq (Rg L61_1) c61_2)∧D tb c61_2=D tb (.seq (Rg L61_3) c61_4)∧D tb c61_4=D tb (.seq c61_5 c61_19)∧D tb c61_5=D tb (.seq (Rg L61_6) c61_7)∧D tb c61_7=D tb (.block 0 c61_8)∧D tb c61_9=D tb (.seq c61_10 c61_15)∧D tb c61_10=D tb (.seq (Rg L61_11) c61_12)∧D tb c61_12=D tb (.cond (.tmp 13) .skip (.exit 0))∧D tb c61_15=D tb (.seq c61_16 (Rg L61_18))∧D tb c61_16=D tb (.block 1 (.region 5 o61_17 true))∧D tb c61_19=D tb (.seq (Rg L61_20) .ret):=⟨rfl,rfl,rfl,rfl,rfl,rfl,rfl,rfl,rfl,rfl,rfl⟩
def c62_0:=bodyOf Tryz.f62
def run62{args:List V}{st:St}(ha:args.length≤15):=a_1 (T:=tb) (fid:=62) (st:=st) (by rw[a_];exact Tryz.func62) (by rw[a_];rfl) (c:=c62_0) (rs:= #[.tmp 2]) rfl rfl rfl ha
def c62_2:=kid c62_0 1
def c62_3:=kid c62_2 0
def c62_5:=kid c62_3 1
def c62_6:=kid c62_5 0
def c62_10:=kid c62_2 1
noncomputable def L62_1:Lt (kid c62_0 0):= .mk _
noncomputable def L62_4:Lt (kid c62_3 0):= .mk _
noncomputable def L62_7:Lt (kid c62_6 0):= .mk _
noncomputable def L62_11:Lt (kid c62_10 0):= .mk _
theorem S62:D tb c62_0=D tb (.seq (Rg L62_1) c62_2)∧D tb c62_2=D tb (.seq c62_3 c62_10)∧D tb c62_3=D tb (.seq (Rg L62_4) c62_5)∧D tb c62_5=D tb (.cond (.tmp 4) c62_6 .skip)∧D tb c62_6=D tb (.seq (Rg L62_7) .ret)∧D tb c62_10=D tb (.seq (Rg L62_11) .ret):=⟨rfl,rfl,rfl,rfl,rfl,rfl⟩
def c63_0:=bodyOf Tryz.f63
def run63{args:List V}{st:St}(ha:args.length≤32):=a_1 (T:=tb) (fid:=63) (st:=st) (by rw[a_];exact Tryz.func63) (by rw[a_];rfl) (c:=c63_0) (rs:= #[.tmp 2]) rfl rfl rfl ha
def c63_2:=kid c63_0 1
def c63_4:=kid c63_2 1
def c63_5:=kid c63_4 0
def c63_7:=kid c63_5 1
def c63_8:=kid c63_7 0
def c63_9:=kid c63_8 0
def c63_10:=kid c63_9 0
def c63_12:=kid c63_10 1
def c63_15:=kid c63_9 1
def c63_16:=kid c63_15 0
noncomputable def o63_17:=opsOf (kid c63_16 0)
def c63_19:=kid c63_4 1
theorem p63_8:D tb c63_8 rd 32 f m st=loopK tb rd c63_8 32 f m st fun e fr st=>some (e,fr,st):=a_8
theorem e63_8:c63_8= .loop c63_9:=rfl
theorem w63_8:writes c63_9=some [10,11,12,13,16,17,18,19,20,21,22,23,24,25,26,27,28,29,30,3,14,15,4]:=by kernel_rfl
noncomputable def l63_17:{l:List DStep//drawAt o63_17 [(0,0),(1,0),(2,0),(3,6),(4,14),(5,30),(7,0),(8,0),(9,384),(10,896),(11,1920),(6,62),(12,4094),(13,8190),(14,16383),(15,32767)]=l}:=by refine⟨?_,?h⟩;case h=>simp only[drawAt,entsAt,o63_17,c63_16,c63_15,c63_9,c63_8,c63_7,c63_5,c63_4,c63_2,c63_0,opsOf,kid,bodyOf,Tryz.f63,Option.getD_some,List.map,stepOf,Option.map,List.getElem?_toArray,List.getElem?_cons_succ,List.getElem?_cons_zero,Option.bind_some];rfl
theorem q63_17:D tb (.region 5 o63_17 true) rd 32 f m st=regB (evDraws tb (run tb) l63_17.1 [] (mk 32 f m) st):=o_8 [(0,0),(1,0),(2,0),(3,6),(4,14),(5,30),(7,0),(8,0),(9,384),(10,896),(11,1920),(6,62),(12,4094),(13,8190),(14,16383),(15,32767)] (by kernel_rfl) l63_17.2
noncomputable def L63_1:Lt (kid c63_0 0):= .mk _
noncomputable def L63_3:Lt (kid c63_2 0):= .mk _
noncomputable def L63_6:Lt (kid c63_5 0):= .mk _
noncomputable def L63_11:Lt (kid c63_10 0):= .mk _
noncomputable def L63_18:Lt (kid c63_15 1):= .mk _
noncomputable def L63_20:Lt (kid c63_19 0):= .mk _
theorem S63:D tb c63_0=D tb (.seq (Rg L63_1) c63_2)∧D tb c63_2=D tb (.seq (Rg L63_3) c63_4)∧D tb c63_4=D tb (.seq c63_5 c63_19)∧D tb c63_5=D tb (.seq (Rg L63_6) c63_7)∧D tb c63_7=D tb (.block 0 c63_8)∧D tb c63_9=D tb (.seq c63_10 c63_15)∧D tb c63_10=D tb (.seq (Rg L63_11) c63_12)∧D tb c63_12=D tb (.cond (.tmp 13) .skip (.exit 0))∧D tb c63_15=D tb (.seq c63_16 (Rg L63_18))∧D tb c63_16=D tb (.block 1 (.region 5 o63_17 true))∧D tb c63_19=D tb (.seq (Rg L63_20) .ret):=⟨rfl,rfl,rfl,rfl,rfl,rfl,rfl,rfl,rfl,rfl,rfl⟩
def c64_0:=bodyOf Tryz.f64
def run64{args:List V}{st:St}(ha:args.length≤24):=a_1 (T:=tb) (fid:=64) (st:=st) (by rw[a_];exact Tryz.func64) (by rw[a_];rfl) (c:=c64_0) (rs:= #[.tmp 2]) rfl rfl rfl ha
def c64_2:=kid c64_0 1
def c64_4:=kid c64_2 1
def c64_5:=kid c64_4 0
def c64_7:=kid c64_5 1
def c64_8:=kid c64_7 0
def c64_9:=kid c64_8 0
def c64_10:=kid c64_9 0
def c64_12:=kid c64_10 1
def c64_15:=kid c64_9 1
def c64_16:=kid c64_15 0
def c64_19:=kid c64_4 1
theorem p64_8:D tb c64_8 rd 24 f m st=loopK tb rd c64_8 24 f m st fun e fr st=>some (e,fr,st):=a_8
theorem e64_8:c64_8= .loop c64_9:=rfl
theorem w64_8:writes c64_9=some [10,11,12,13,16,17,18,19,20,21,22,3,14,15,4]:=by kernel_rfl
noncomputable def L64_1:Lt (kid c64_0 0):= .mk _
noncomputable def L64_3:Lt (kid c64_2 0):= .mk _
noncomputable def L64_6:Lt (kid c64_5 0):= .mk _
noncomputable def L64_11:Lt (kid c64_10 0):= .mk _
noncomputable def L64_17:Lt (kid c64_16 0):= .mk _
noncomputable def L64_18:Lt (kid c64_15 1):= .mk _
noncomputable def L64_20:Lt (kid c64_19 0):= .mk _
theorem S64:D tb c64_0=D tb (.seq (Rg L64_1) c64_2)∧D tb c64_2=D tb (.seq (Rg L64_3) c64_4)∧D tb c64_4=D tb (.seq c64_5 c64_19)∧D tb c64_5=D tb (.seq (Rg L64_6) c64_7)∧D tb c64_7=D tb (.block 0 c64_8)∧D tb c64_9=D tb (.seq c64_10 c64_15)∧D tb c64_10=D tb (.seq (Rg L64_11) c64_12)∧D tb c64_12=D tb (.cond (.tmp 13) .skip (.exit 0))∧D tb c64_15=D tb (.seq c64_16 (Rg L64_18))∧D tb c64_16=D tb (.block 1 (Rg L64_17))∧D tb c64_19=D tb (.seq (Rg L64_20) .ret):=⟨rfl,rfl,rfl,rfl,rfl,rfl,rfl,rfl,rfl,rfl,rfl⟩
def c92_0:=bodyOf Tryz.f92
def c92_2:=kid c92_0 1
def c92_3:=kid c92_2 0
def c92_5:=kid c92_3 1
def c92_6:=kid c92_5 0
def c92_7:=kid c92_6 0
theorem e92_6:c92_6= .loop c92_7:=rfl
def c93_0:=bodyOf Tryz.f93
def c93_2:=kid c93_0 1
def c93_4:=kid c93_2 1
def c93_12:=kid c93_4 1
def c93_20:=kid c93_12 1
def c93_21:=kid c93_20 0
def c93_23:=kid c93_21 1
def c93_24:=kid c93_23 0
def c93_25:=kid c93_24 0
def c93_31:=kid c93_25 1
def c93_32:=kid c93_31 0
def c93_33:=kid c93_32 0
def c93_35:=kid c93_33 1
def c93_43:=kid c93_35 1
def c93_45:=kid c93_43 1
def c93_46:=kid c93_45 0
def c93_47:=kid c93_46 0
theorem e93_24:c93_24= .loop c93_25:=rfl
theorem e93_46:c93_46= .loop c93_47:=rfl
def c134_0:=bodyOf Tryz.f134
def c134_2:=kid c134_0 1
def c134_3:=kid c134_2 0
def c134_5:=kid c134_3 1
def c134_6:=kid c134_5 0
def c134_7:=kid c134_6 0
theorem e134_6:c134_6= .loop c134_7:=rfl
def c136_0:=bodyOf Tryz.f136
def c136_2:=kid c136_0 1
def c136_4:=kid c136_2 1
def c136_6:=kid c136_4 1
def c136_14:=kid c136_6 1
def c136_16:=kid c136_14 1
def c136_18:=kid c136_16 1
def c136_24:=kid c136_18 1
def c136_32:=kid c136_24 1
def c136_40:=kid c136_32 1
def c136_41:=kid c136_40 0
def c136_43:=kid c136_41 1
def c136_44:=kid c136_43 0
def c136_45:=kid c136_44 0
def c136_61:=kid c136_40 1
def c136_62:=kid c136_61 0
def c136_64:=kid c136_62 1
def c136_65:=kid c136_64 0
def c136_66:=kid c136_65 0
theorem e136_44:c136_44= .loop c136_45:=rfl
theorem e136_65:c136_65= .loop c136_66:=rfl
def c169_0:=bodyOf Tryz.f169
def c169_2:=kid c169_0 1
def c169_3:=kid c169_2 0
def c169_5:=kid c169_3 1
def c169_6:=kid c169_5 0
def c169_7:=kid c169_6 0
theorem e169_6:c169_6= .loop c169_7:=rfl
def c171_0:=bodyOf Tryz.f171
def c171_2:=kid c171_0 1
def c171_3:=kid c171_2 0
def c171_5:=kid c171_3 1
def c171_6:=kid c171_5 0
def c171_7:=kid c171_6 0
theorem e171_6:c171_6= .loop c171_7:=rfl
def c173_0:=bodyOf Tryz.f173
def c173_2:=kid c173_0 1
def c173_3:=kid c173_2 0
def c173_5:=kid c173_3 1
def c173_6:=kid c173_5 0
def c173_7:=kid c173_6 0
theorem e173_6:c173_6= .loop c173_7:=rfl
end
end Go.Proofs.YtghhphdkojjalaaGreatDoor
namespace Go.Proofs.YtghhphdkojjalaaGreatDoor
open Go.Abs
structure Stmt where
 at_:Int
 kind:Int
 to:Place
 n:Int
 name:Str
 variant:Str
 nl:Option Bool
 args:List Place
def Stmt.v(x:Stmt):V:= .agg [.int .i64 x.at_, .int .i64 x.kind, .str x.to.loc, .list false x.to.nl (x.to.steps.map .str), .int .i64 x.n, .str x.name, .str x.variant, .list false x.nl (x.args.map Place.v)]
structure Arm where
 variant:Str
 loc:Str
 block:Str
def Arm.v(x:Arm):V:= .agg [.str x.variant, .str x.loc, .str x.block]
structure Term where
 at_:Int
 kind:Int
 to:Place
 name:Str
 n1:Option Bool
 args:List Place
 n2:Option Bool
 blocks:List Str
 n3:Option Bool
 arms:List Arm
def Term.cs(x:Term):List V:=[.int .i64 x.at_, .int .i64 x.kind, .str x.to.loc, .list false x.to.nl (x.to.steps.map .str), .str x.name, .list false x.n1 (x.args.map Place.v), .list false x.n2 (x.blocks.map .str), .list false x.n3 (x.arms.map Arm.v)]
def Term.v(x:Term):V:= .agg [.int .i64 x.at_, .int .i64 x.kind, .str x.to.loc, .list false x.to.nl (x.to.steps.map .str), .str x.name, .list false x.n1 (x.args.map Place.v), .list false x.n2 (x.blocks.map .str), .list false x.n3 (x.arms.map Arm.v)]
structure Block where
 at_:Int
 name:Str
 nl:Option Bool
 stmts:List Stmt
 term:Term
def Block.v(x:Block):V:= .agg [.int .i64 x.at_, .str x.name, .list false x.nl (x.stmts.map Stmt.v), .int .i64 x.term.at_, .int .i64 x.term.kind, .str x.term.to.loc, .list false x.term.to.nl (x.term.to.steps.map .str), .str x.term.name, .list false x.term.n1 (x.term.args.map Place.v), .list false x.term.n2 (x.term.blocks.map .str), .list false x.term.n3 (x.term.arms.map Arm.v)]
structure Fun where
 at_:Int
 name:Str
 n1:Option Bool
 params:List Var
 n2:Option Bool
 locals:List Var
 result:Str
 n3:Option Bool
 blocks:List Block
def Fun.v(x:Fun):V:= .agg [.int .i64 x.at_, .str x.name, .list false x.n1 (x.params.map Var.v), .list false x.n2 (x.locals.map Var.v), .str x.result, .list false x.n3 (x.blocks.map Block.v)]
structure Struct where
 at_:Int
 name:Str
 safe:Bool
 hook:Bool
 nl:Option Bool
 fields:List Var
def Struct.v(x:Struct):V:= .agg [.int .i64 x.at_, .str x.name, .bool x.safe, .bool x.hook, .list false x.nl (x.fields.map Var.v)]
structure Enum where
 at_:Int
 name:Str
 nl:Option Bool
 variants:List Var
def Enum.v(x:Enum):V:= .agg [.int .i64 x.at_, .str x.name, .list false x.nl (x.variants.map Var.v)]
structure Prog where
 n1:Option Bool
 structs:List Struct
 n2:Option Bool
 enums:List Enum
 n3:Option Bool
 funcs:List Fun
def Prog.v(x:Prog):V:= .agg [.list false x.n1 (x.structs.map Struct.v), .list false x.n2 (x.enums.map Enum.v), .list false x.n3 (x.funcs.map Fun.v)]
section
variable {k l:Nat}
theorem av_8(x:Var):below k (l+2) x.v=true:=by simp[Var.v,u_3,p_0]
theorem ac_3(x:Place):below k (l+3) x.v=true:=by simp[Place.v,u_3,p_0,l_5]
theorem aq_0(x:Stmt):below k (l+5) x.v=true:=by simp[Stmt.v,u_3,p_0,l_5,v_8,ac_3]
theorem bh_1(x:Arm):below k (l+2) x.v=true:=by simp[Arm.v,u_3,p_0]
theorem ad_3(x:Block):below k (l+7) x.v=true:=by simp[Block.v,u_3,p_0,l_5,v_8,ac_3,bh_1,aq_0]
theorem bf_9(x:Fun):below k (l+9) x.v=true:=by simp[Fun.v,u_3,p_0,l_5,v_8,av_8,ad_3]
theorem ae_4(x:Struct):below k (l+4) x.v=true:=by simp[Struct.v,u_3,p_0,l_5,v_8,p_3,av_8]
theorem aI_8(x:Enum):below k (l+4) x.v=true:=by simp[Enum.v,u_3,p_0,l_5,v_8,av_8]
theorem k_7(xs:List Var):xs.all (below k (l+2)∘Var.v)=true:=by simp[av_8]
theorem e_(xs:List Place):xs.all (below k (l+3)∘Place.v)=true:=by simp[ac_3]
theorem S_9(xs:List Stmt):xs.all (below k (l+5)∘Stmt.v)=true:=by simp[aq_0]
theorem w_1(xs:List Arm):xs.all (below k (l+2)∘Arm.v)=true:=by simp[bh_1]
theorem A_1(xs:List Block):xs.all (below k (l+7)∘Block.v)=true:=by simp[ad_3]
theorem o_2(xs:List Fun):xs.all (below k (l+9)∘Fun.v)=true:=by simp[bf_9]
theorem c_5(xs:List Struct):xs.all (below k (l+4)∘Struct.v)=true:=by simp[ae_4]
theorem k_4(xs:List Enum):xs.all (below k (l+4)∘Enum.v)=true:=by simp[aI_8]
end
theorem G_9{α:Type}{g:α→V}:∀{xs:List α} {x:α},x∈xs→(g x).bulk≤V.bulks (xs.map g)
 |y::ys,x,h=>by
  simp only[List.map_cons,V.bulks]
  rcases List.mem_cons.1 h with rfl|h
  ·omega
  ·have:=G_9 (g:=g) h;omega
theorem G_7{α:Type}{g:α→V}(hg:∀x,1≤(g x).bulk):∀xs:List α,xs.length≤V.bulks (xs.map g)
 |[]=>Nat.zero_le _
 |y::ys=>by
  have:=G_7 hg ys
  have:=hg y
  simp only[List.map_cons,V.bulks,List.length_cons];omega
theorem M_2(s:Str):(V.str s).bulk=s.length+1:=rfl
def Var.size(x:Var):Nat:=x.v.bulk
theorem P_9(x:Var):x.v.bulk=x.name.length+x.type.length+2:=by simp[Var.v,V.bulk,V.bulks];omega
def Place.size(x:Place):Nat:=x.v.bulk
theorem Y_5(x:Place):x.v.bulk=x.loc.length+1+(V.bulks (x.steps.map V.str)+1):=by simp[Place.v,V.bulk,V.bulks]
def Stmt.size(x:Stmt):Nat:=x.v.bulk
theorem ae_0(x:Stmt):x.v.bulk=x.to.v.bulk+x.name.length+x.variant.length+V.bulks (x.args.map Place.v)+6:=by simp[Stmt.v,Place.v,V.bulk,V.bulks];omega
def Arm.size(x:Arm):Nat:=x.v.bulk
theorem ar_6(x:Arm):x.v.bulk=x.variant.length+x.loc.length+x.block.length+3:=by simp[Arm.v,V.bulk,V.bulks];omega
def Term.size(x:Term):Nat:=x.v.bulk
theorem ai_3(x:Term):x.v.bulk=x.to.v.bulk+x.name.length+V.bulks (x.args.map Place.v)+V.bulks (x.blocks.map V.str)+V.bulks (x.arms.map Arm.v)+6:=by simp[Term.v,Place.v,V.bulk,V.bulks];omega
def Block.size(x:Block):Nat:=x.v.bulk
theorem X_8(x:Block):x.v.bulk=x.name.length+V.bulks (x.stmts.map Stmt.v)+x.term.v.bulk+3:=by simp[Block.v,Term.v,V.bulk,V.bulks];omega
def Fun.size(x:Fun):Nat:=x.v.bulk
theorem ap_1(x:Fun):x.v.bulk=x.name.length+V.bulks (x.params.map Var.v)+V.bulks (x.locals.map Var.v)+x.result.length+V.bulks (x.blocks.map Block.v)+6:=by simp[Fun.v,V.bulk,V.bulks];omega
def Struct.size(x:Struct):Nat:=x.v.bulk
theorem L_(x:Struct):x.v.bulk=x.name.length+V.bulks (x.fields.map Var.v)+5:=by simp[Struct.v,V.bulk,V.bulks];omega
def Enum.size(x:Enum):Nat:=x.v.bulk
theorem K_2(x:Enum):x.v.bulk=x.name.length+V.bulks (x.variants.map Var.v)+3:=by simp[Enum.v,V.bulk,V.bulks];omega
def Prog.size(x:Prog):Nat:=x.v.bulk
theorem be_2(x:Prog):x.v.bulk=V.bulks (x.structs.map Struct.v)+V.bulks (x.enums.map Enum.v)+V.bulks (x.funcs.map Fun.v)+3:=by simp[Prog.v,V.bulk,V.bulks];omega
theorem H_0(xs:List Str):xs.length≤V.bulks (xs.map V.str):=G_7 (fun x=>by rw[M_2];omega) xs
theorem d_3(xs:List Var):xs.length≤V.bulks (xs.map Var.v):=G_7 (fun x=>by rw[P_9];omega) xs
theorem w_0(xs:List Place):xs.length≤V.bulks (xs.map Place.v):=G_7 (fun x=>by rw[Y_5];omega) xs
theorem L_2(xs:List Stmt):xs.length≤V.bulks (xs.map Stmt.v):=G_7 (fun x=>by rw[ae_0];omega) xs
theorem S_5(xs:List Arm):xs.length≤V.bulks (xs.map Arm.v):=G_7 (fun x=>by rw[ar_6];omega) xs
theorem G_5(xs:List Block):xs.length≤V.bulks (xs.map Block.v):=G_7 (fun x=>by rw[X_8];omega) xs
theorem S_6(xs:List Fun):xs.length≤V.bulks (xs.map Fun.v):=G_7 (fun x=>by rw[ap_1];omega) xs
theorem m_2(xs:List Struct):xs.length≤V.bulks (xs.map Struct.v):=G_7 (fun x=>by rw[L_];omega) xs
theorem w_9(xs:List Enum):xs.length≤V.bulks (xs.map Enum.v):=G_7 (fun x=>by rw[K_2];omega) xs
theorem Y_1{s:Str}{xs:List Str}(h:s∈xs):s.length+1≤V.bulks (xs.map V.str):=by have:=G_9 (g:=V.str) h;rwa [M_2]at this
theorem D_3(x:Var):x.size=x.name.length+x.type.length+2:=P_9 x
theorem E_9{x:Var}{xs:List Var}(h:x∈xs):x.size≤V.bulks (xs.map Var.v):=G_9 (g:=Var.v) h
theorem J_1(x:Place):x.size=x.loc.length+1+(V.bulks (x.steps.map V.str)+1):=Y_5 x
theorem K_1{x:Place}{xs:List Place}(h:x∈xs):x.size≤V.bulks (xs.map Place.v):=G_9 (g:=Place.v) h
theorem D_7(x:Stmt):x.size=x.to.size+x.name.length+x.variant.length+V.bulks (x.args.map Place.v)+6:=ae_0 x
theorem M_7{x:Stmt}{xs:List Stmt}(h:x∈xs):x.size≤V.bulks (xs.map Stmt.v):=G_9 (g:=Stmt.v) h
theorem ac_6(x:Arm):x.size=x.variant.length+x.loc.length+x.block.length+3:=ar_6 x
theorem au_4{x:Arm}{xs:List Arm}(h:x∈xs):x.size≤V.bulks (xs.map Arm.v):=G_9 (g:=Arm.v) h
theorem F_4(x:Term):x.size=x.to.size+x.name.length+V.bulks (x.args.map Place.v)+V.bulks (x.blocks.map V.str)+V.bulks (x.arms.map Arm.v)+6:=ai_3 x
theorem w_2(x:Block):x.size=x.name.length+V.bulks (x.stmts.map Stmt.v)+x.term.size+3:=X_8 x
theorem H_6{x:Block}{xs:List Block}(h:x∈xs):x.size≤V.bulks (xs.map Block.v):=G_9 (g:=Block.v) h
theorem G_8(x:Fun):x.size=x.name.length+V.bulks (x.params.map Var.v)+V.bulks (x.locals.map Var.v)+x.result.length+V.bulks (x.blocks.map Block.v)+6:=ap_1 x
theorem Y_9{x:Fun}{xs:List Fun}(h:x∈xs):x.size≤V.bulks (xs.map Fun.v):=G_9 (g:=Fun.v) h
theorem g_4(x:Struct):x.size=x.name.length+V.bulks (x.fields.map Var.v)+5:=L_ x
theorem p_7{x:Struct}{xs:List Struct}(h:x∈xs):x.size≤V.bulks (xs.map Struct.v):=G_9 (g:=Struct.v) h
theorem o_1(x:Enum):x.size=x.name.length+V.bulks (x.variants.map Var.v)+3:=K_2 x
theorem D_4{x:Enum}{xs:List Enum}(h:x∈xs):x.size≤V.bulks (xs.map Enum.v):=G_9 (g:=Enum.v) h
theorem b_6(x:Prog):x.size=V.bulks (x.structs.map Struct.v)+V.bulks (x.enums.map Enum.v)+V.bulks (x.funcs.map Fun.v)+3:=be_2 x
end Go.Proofs.YtghhphdkojjalaaGreatDoor
namespace Go.Proofs.YtghhphdkojjalaaGreatDoor
noncomputable section
open Go.Abs
set_option maxRecDepth 1000000
set_option linter.unusedSimpArgs false
variable {rd:Option Nat} {f:Nat→V} {m:List Nat} {st:St}
def c40_0:=bodyOf Tryz.f40
def run40{args:List V}{st:St}(ha:args.length≤31):=a_1 (T:=tb) (fid:=40) (st:=st) (by rw[a_];exact Tryz.func40) (by rw[a_];rfl) (c:=c40_0) (rs:= #[.tmp 2]) rfl rfl rfl ha
def c40_2:=kid c40_0 1
def c40_3:=kid c40_2 0
def c40_5:=kid c40_3 1
def c40_6:=kid c40_5 0
def c40_10:=kid c40_2 1
def c40_12:=kid c40_10 1
def c40_14:=kid c40_12 1
noncomputable def L40_1:Lt (kid c40_0 0):= .mk _
noncomputable def L40_4:Lt (kid c40_3 0):= .mk _
noncomputable def L40_7:Lt (kid c40_6 0):= .mk _
noncomputable def L40_11:Lt (kid c40_10 0):= .mk _
noncomputable def L40_13:Lt (kid c40_12 0):= .mk _
noncomputable def L40_15:Lt (kid c40_14 0):= .mk _
theorem S40:D tb c40_0=D tb (.seq (Rg L40_1) c40_2)∧D tb c40_2=D tb (.seq c40_3 c40_10)∧D tb c40_3=D tb (.seq (Rg L40_4) c40_5)∧D tb c40_5=D tb (.cond (.tmp 15) c40_6 .skip)∧D tb c40_6=D tb (.seq (Rg L40_7) .ret)∧D tb c40_10=D tb (.seq (Rg L40_11) c40_12)∧D tb c40_12=D tb (.seq (Rg L40_13) c40_14)∧D tb c40_14=D tb (.seq (Rg L40_15) .ret):=⟨rfl,rfl,rfl,rfl,rfl,rfl,rfl,rfl⟩
def c42_0:=bodyOf Tryz.f42
def run42{args:List V}{st:St}(ha:args.length≤13):=a_1 (T:=tb) (fid:=42) (st:=st) (by rw[a_];exact Tryz.func42) (by rw[a_];rfl) (c:=c42_0) (rs:= #[.cell 2 26]) rfl rfl rfl ha
def c42_2:=kid c42_0 1
noncomputable def o42_3:=opsOf (kid c42_2 0)
noncomputable def l42_3:{l:List DStep//drawAt o42_3 [(0,0),(1,1),(3,0),(4,8),(6,0),(7,64),(2,3),(5,31),(8,255),(9,511),(10,1023)]=l}:=by refine⟨?_,?h⟩;case h=>simp only[drawAt,entsAt,o42_3,c42_2,c42_0,opsOf,kid,bodyOf,Tryz.f42,Option.getD_some,List.map,stepOf,Option.map,List.getElem?_toArray,List.getElem?_cons_succ,List.getElem?_cons_zero,Option.bind_some];rfl
theorem q42_3:D tb (.region 1 o42_3 true) rd 13 f m st=regB (evDraws tb (run tb) l42_3.1 [] (mk 13 f m) st):=o_8 [(0,0),(1,1),(3,0),(4,8),(6,0),(7,64),(2,3),(5,31),(8,255),(9,511),(10,1023)] (by kernel_rfl) l42_3.2
noncomputable def L42_1:Lt (kid c42_0 0):= .mk _
theorem S42:D tb c42_0=D tb (.seq (Rg L42_1) c42_2)∧D tb c42_2=D tb (.seq (.region 1 o42_3 true) .ret):=⟨rfl,rfl⟩
def c57_0:=bodyOf Tryz.f57
theorem bo_9{args:List V}{st:St}(ha:args.length≤8):evBody tb (run tb) Tryz.f57 args st=leave tb [.tmp 2] ((run tb).code none c57_0 (mk 8 (argF args) []) st):=F_2 (c:=c57_0) (rs:= #[.tmp 2]) rfl rfl rfl ha
theorem fn57:tb.fn 57=some Tryz.f57:=by rw[a_];exact Tryz.func57
theorem md57:tb.mode 57= .shut2:=by rw[a_];rfl
def c57_2:=kid c57_0 1
def c57_3:=kid c57_2 0
def c57_5:=kid c57_3 1
def c57_6:=kid c57_5 0
def c57_10:=kid c57_2 1
noncomputable def L57_1:Lt (kid c57_0 0):= .mk _
noncomputable def L57_4:Lt (kid c57_3 0):= .mk _
noncomputable def L57_7:Lt (kid c57_6 0):= .mk _
noncomputable def L57_11:Lt (kid c57_10 0):= .mk _
theorem S57:D tb c57_0=D tb (.seq (Rg L57_1) c57_2)∧D tb c57_2=D tb (.seq c57_3 c57_10)∧D tb c57_3=D tb (.seq (Rg L57_4) c57_5)∧D tb c57_5=D tb (.cond (.tmp 4) c57_6 .skip)∧D tb c57_6=D tb (.seq (Rg L57_7) .ret)∧D tb c57_10=D tb (.seq (Rg L57_11) .ret):=⟨rfl,rfl,rfl,rfl,rfl,rfl⟩
def c65_0:=bodyOf Tryz.f65
def run65{args:List V}{st:St}(ha:args.length≤19):=b_1 (T:=tb) (fid:=65) (st:=st) (by rw[a_];exact Tryz.func65) (by rw[a_];rfl) (c:=c65_0) (rs:= #[.tmp 4]) rfl rfl rfl ha
def c65_2:=kid c65_0 1
def c65_3:=kid c65_2 0
def c65_5:=kid c65_3 1
def c65_6:=kid c65_5 0
def c65_7:=kid c65_6 0
def c65_9:=kid c65_7 1
def c65_10:=kid c65_9 0
def c65_13:=kid c65_9 1
def c65_14:=kid c65_13 0
def c65_15:=kid c65_14 0
def c65_17:=kid c65_15 1
def c65_19:=kid c65_17 1
def c65_20:=kid c65_19 0
def c65_25:=kid c65_2 1
theorem p65_6:D tb c65_6 rd 19 f m st=loopK tb rd c65_6 19 f m st fun e fr st=>some (e,fr,st):=a_8
theorem e65_6:c65_6= .loop c65_7:=rfl
theorem w65_6:writes c65_7=some [9,10,5,11,12,13,14,15,16,17,4,18,8]:=by kernel_rfl
noncomputable def L65_1:Lt (kid c65_0 0):= .mk _
noncomputable def L65_4:Lt (kid c65_3 0):= .mk _
noncomputable def L65_8:Lt (kid c65_7 0):= .mk _
noncomputable def L65_16:Lt (kid c65_15 0):= .mk _
noncomputable def L65_18:Lt (kid c65_17 0):= .mk _
noncomputable def L65_21:Lt (kid c65_20 0):= .mk _
noncomputable def L65_24:Lt (kid c65_13 1):= .mk _
noncomputable def L65_26:Lt (kid c65_25 0):= .mk _
theorem S65:D tb c65_0=D tb (.seq (Rg L65_1) c65_2)∧D tb c65_2=D tb (.seq c65_3 c65_25)∧D tb c65_3=D tb (.seq (Rg L65_4) c65_5)∧D tb c65_5=D tb (.block 0 c65_6)∧D tb c65_7=D tb (.seq (Rg L65_8) c65_9)∧D tb c65_9=D tb (.seq c65_10 c65_13)∧D tb c65_10=D tb (.cond (.tmp 9) .skip (.exit 0))∧D tb c65_13=D tb (.seq c65_14 (Rg L65_24))∧D tb c65_14=D tb (.block 1 c65_15)∧D tb c65_15=D tb (.seq (Rg L65_16) c65_17)∧D tb c65_17=D tb (.seq (Rg L65_18) c65_19)∧D tb c65_19=D tb (.cond (.tmp 16) c65_20 .skip)∧D tb c65_20=D tb (.seq (Rg L65_21) .ret)∧D tb c65_25=D tb (.seq (Rg L65_26) .ret):=⟨rfl,rfl,rfl,rfl,rfl,rfl,rfl,rfl,rfl,rfl,rfl,rfl,rfl,rfl⟩
def c71_0:=bodyOf Tryz.f71
def run71{args:List V}{st:St}(ha:args.length≤9):=a_1 (T:=tb) (fid:=71) (st:=st) (by rw[a_];exact Tryz.func71) (by rw[a_];rfl) (c:=c71_0) (rs:= #[.tmp 4]) rfl rfl rfl ha
def c71_2:=kid c71_0 1
noncomputable def L71_1:Lt (kid c71_0 0):= .mk _
noncomputable def L71_3:Lt (kid c71_2 0):= .mk _
theorem S71:D tb c71_0=D tb (.seq (Rg L71_1) c71_2)∧D tb c71_2=D tb (.seq (Rg L71_3) .ret):=⟨rfl,rfl⟩
def c72_0:=bodyOf Tryz.f72
def run72{args:List V}{st:St}(ha:args.length≤17):=a_1 (T:=tb) (fid:=72) (st:=st) (by rw[a_];exact Tryz.func72) (by rw[a_];rfl) (c:=c72_0) (rs:= #[.tmp 2]) rfl rfl rfl ha
def c72_2:=kid c72_0 1
noncomputable def L72_1:Lt (kid c72_0 0):= .mk _
noncomputable def L72_3:Lt (kid c72_2 0):= .mk _
theorem S72:D tb c72_0=D tb (.seq (Rg L72_1) c72_2)∧D tb c72_2=D tb (.seq (Rg L72_3) .ret):=⟨rfl,rfl⟩
def c73_0:=bodyOf Tryz.f73
def run73{args:List V}{st:St}(ha:args.length≤9):=a_1 (T:=tb) (fid:=73) (st:=st) (by rw[a_];exact Tryz.func73) (by rw[a_];rfl) (c:=c73_0) (rs:= #[.tmp 4]) rfl rfl rfl ha
def c73_2:=kid c73_0 1
noncomputable def L73_1:Lt (kid c73_0 0):= .mk _
noncomputable def L73_3:Lt (kid c73_2 0):= .mk _
theorem S73:D tb c73_0=D tb (.seq (Rg L73_1) c73_2)∧D tb c73_2=D tb (.seq (Rg L73_3) .ret):=⟨rfl,rfl⟩
def c74_0:=bodyOf Tryz.f74
def run74{args:List V}{st:St}(ha:args.length≤11):=a_1 (T:=tb) (fid:=74) (st:=st) (by rw[a_];exact Tryz.func74) (by rw[a_];rfl) (c:=c74_0) (rs:= #[.tmp 2]) rfl rfl rfl ha
def c74_2:=kid c74_0 1
noncomputable def L74_1:Lt (kid c74_0 0):= .mk _
noncomputable def L74_3:Lt (kid c74_2 0):= .mk _
theorem S74:D tb c74_0=D tb (.seq (Rg L74_1) c74_2)∧D tb c74_2=D tb (.seq (Rg L74_3) .ret):=⟨rfl,rfl⟩
def c75_0:=bodyOf Tryz.f75
def run75{args:List V}{st:St}(ha:args.length≤9):=a_1 (T:=tb) (fid:=75) (st:=st) (by rw[a_];exact Tryz.func75) (by rw[a_];rfl) (c:=c75_0) (rs:= #[.tmp 4]) rfl rfl rfl ha
def c75_2:=kid c75_0 1
noncomputable def L75_1:Lt (kid c75_0 0):= .mk _
noncomputable def L75_3:Lt (kid c75_2 0):= .mk _
theorem S75:D tb c75_0=D tb (.seq (Rg L75_1) c75_2)∧D tb c75_2=D tb (.seq (Rg L75_3) .ret):=⟨rfl,rfl⟩
def c76_0:=bodyOf Tryz.f76
def run76{args:List V}{st:St}(ha:args.length≤23):=a_1 (T:=tb) (fid:=76) (st:=st) (by rw[a_];exact Tryz.func76) (by rw[a_];rfl) (c:=c76_0) (rs:= #[.tmp 2]) rfl rfl rfl ha
def c76_2:=kid c76_0 1
noncomputable def L76_1:Lt (kid c76_0 0):= .mk _
noncomputable def L76_3:Lt (kid c76_2 0):= .mk _
theorem S76:D tb c76_0=D tb (.seq (Rg L76_1) c76_2)∧D tb c76_2=D tb (.seq (Rg L76_3) .ret):=⟨rfl,rfl⟩
def c77_0:=bodyOf Tryz.f77
def run77{args:List V}{st:St}(ha:args.length≤16):=a_1 (T:=tb) (fid:=77) (st:=st) (by rw[a_];exact Tryz.func77) (by rw[a_];rfl) (c:=c77_0) (rs:= #[.tmp 2]) rfl rfl rfl ha
def c77_2:=kid c77_0 1
noncomputable def L77_1:Lt (kid c77_0 0):= .mk _
noncomputable def L77_3:Lt (kid c77_2 0):= .mk _
theorem S77:D tb c77_0=D tb (.seq (Rg L77_1) c77_2)∧D tb c77_2=D tb (.seq (Rg L77_3) .ret):=⟨rfl,rfl⟩
def c78_0:=bodyOf Tryz.f78
def run78{args:List V}{st:St}(ha:args.length≤9):=a_1 (T:=tb) (fid:=78) (st:=st) (by rw[a_];exact Tryz.func78) (by rw[a_];rfl) (c:=c78_0) (rs:= #[.tmp 4]) rfl rfl rfl ha
def c78_2:=kid c78_0 1
noncomputable def L78_1:Lt (kid c78_0 0):= .mk _
noncomputable def L78_3:Lt (kid c78_2 0):= .mk _
theorem S78:D tb c78_0=D tb (.seq (Rg L78_1) c78_2)∧D tb c78_2=D tb (.seq (Rg L78_3) .ret):=⟨rfl,rfl⟩
def c79_0:=bodyOf Tryz.f79
def run79{args:List V}{st:St}(ha:args.length≤58):=a_1 (T:=tb) (fid:=79) (st:=st) (by rw[a_];exact Tryz.func79) (by rw[a_];rfl) (c:=c79_0) (rs:= #[.tmp 2]) rfl rfl rfl ha
def c79_2:=kid c79_0 1
def c79_4:=kid c79_2 1
def c79_6:=kid c79_4 1
noncomputable def L79_1:Lt (kid c79_0 0):= .mk _
noncomputable def L79_3:Lt (kid c79_2 0):= .mk _
noncomputable def L79_5:Lt (kid c79_4 0):= .mk _
noncomputable def L79_7:Lt (kid c79_6 0):= .mk _
theorem S79:D tb c79_0=D tb (.seq (Rg L79_1) c79_2)∧D tb c79_2=D tb (.seq (Rg L79_3) c79_4)∧D tb c79_4=D tb (.seq (Rg L79_5) c79_6)∧D tb c79_6=D tb (.seq (Rg L79_7) .ret):=⟨rfl,rfl,rfl,rfl⟩
def c80_0:=bodyOf Tryz.f80
def run80{args:List V}{st:St}(ha:args.length≤25):=a_1 (T:=tb) (fid:=80) (st:=st) (by rw[a_];exact Tryz.func80) (by rw[a_];rfl) (c:=c80_0) (rs:= #[.tmp 4]) rfl rfl rfl ha
def c80_2:=kid c80_0 1
def c80_4:=kid c80_2 1
def c80_5:=kid c80_4 0
def c80_7:=kid c80_5 1
def c80_8:=kid c80_7 0
def c80_9:=kid c80_8 0
def c80_11:=kid c80_9 1
def c80_12:=kid c80_11 0
def c80_15:=kid c80_11 1
def c80_16:=kid c80_15 0
def c80_17:=kid c80_16 0
def c80_21:=kid c80_4 1
theorem p80_8:D tb c80_8 rd 25 f m st=loopK tb rd c80_8 25 f m st fun e fr st=>some (e,fr,st):=a_8
theorem e80_8:c80_8= .loop c80_9:=rfl
theorem w80_8:writes c80_9=some [12,13,6,14,15,16,17,18,19,20,21,22,23,11]:=by kernel_rfl
noncomputable def L80_1:Lt (kid c80_0 0):= .mk _
noncomputable def L80_3:Lt (kid c80_2 0):= .mk _
noncomputable def L80_6:Lt (kid c80_5 0):= .mk _
noncomputable def L80_10:Lt (kid c80_9 0):= .mk _
noncomputable def L80_18:Lt (kid c80_17 0):= .mk _
noncomputable def L80_19:Lt (kid c80_17 1):= .mk _
noncomputable def L80_20:Lt (kid c80_15 1):= .mk _
noncomputable def L80_22:Lt (kid c80_21 0):= .mk _
theorem S80:D tb c80_0=D tb (.seq (Rg L80_1) c80_2)∧D tb c80_2=D tb (.seq (Rg L80_3) c80_4)∧D tb c80_4=D tb (.seq c80_5 c80_21)∧D tb c80_5=D tb (.seq (Rg L80_6) c80_7)∧D tb c80_7=D tb (.block 0 c80_8)∧D tb c80_9=D tb (.seq (Rg L80_10) c80_11)∧D tb c80_11=D tb (.seq c80_12 c80_15)∧D tb c80_12=D tb (.cond (.tmp 12) .skip (.exit 0))∧D tb c80_15=D tb (.seq c80_16 (Rg L80_20))∧D tb c80_16=D tb (.block 1 c80_17)∧D tb c80_17=D tb (.seq (Rg L80_18) (Rg L80_19))∧D tb c80_21=D tb (.seq (Rg L80_22) .ret):=⟨rfl,rfl,rfl,rfl,rfl,rfl,rfl,rfl,rfl,rfl,rfl,rfl⟩
def c81_0:=bodyOf Tryz.f81
def run81{args:List V}{st:St}(ha:args.length≤8):=a_1 (T:=tb) (fid:=81) (st:=st) (by rw[a_];exact Tryz.func81) (by rw[a_];rfl) (c:=c81_0) (rs:= #[.cell 2 37]) rfl rfl rfl ha
def c81_2:=kid c81_0 1
def c81_4:=kid c81_2 1
noncomputable def L81_1:Lt (kid c81_0 0):= .mk _
noncomputable def L81_3:Lt (kid c81_2 0):= .mk _
noncomputable def L81_5:Lt (kid c81_4 0):= .mk _
theorem S81:D tb c81_0=D tb (.seq (Rg L81_1) c81_2)∧D tb c81_2=D tb (.seq (Rg L81_3) c81_4)∧D tb c81_4=D tb (.seq (Rg L81_5) .ret):=⟨rfl,rfl,rfl⟩
def c82_0:=bodyOf Tryz.f82
def run82{args:List V}{st:St}(ha:args.length≤25):=a_1 (T:=tb) (fid:=82) (st:=st) (by rw[a_];exact Tryz.func82) (by rw[a_];rfl) (c:=c82_0) (rs:= #[.tmp 4]) rfl rfl rfl ha
def c82_2:=kid c82_0 1
def c82_4:=kid c82_2 1
def c82_5:=kid c82_4 0
def c82_7:=kid c82_5 1
def c82_8:=kid c82_7 0
def c82_9:=kid c82_8 0
def c82_11:=kid c82_9 1
def c82_12:=kid c82_11 0
def c82_15:=kid c82_11 1
def c82_16:=kid c82_15 0
def c82_17:=kid c82_16 0
def c82_21:=kid c82_4 1
theorem p82_8:D tb c82_8 rd 25 f m st=loopK tb rd c82_8 25 f m st fun e fr st=>some (e,fr,st):=a_8
theorem e82_8:c82_8= .loop c82_9:=rfl
theorem w82_8:writes c82_9=some [12,13,6,14,15,16,17,18,19,20,21,22,23,11]:=by kernel_rfl
noncomputable def L82_1:Lt (kid c82_0 0):= .mk _
noncomputable def L82_3:Lt (kid c82_2 0):= .mk _
noncomputable def L82_6:Lt (kid c82_5 0):= .mk _
noncomputable def L82_10:Lt (kid c82_9 0):= .mk _
noncomputable def L82_18:Lt (kid c82_17 0):= .mk _
noncomputable def L82_19:Lt (kid c82_17 1):= .mk _
noncomputable def L82_20:Lt (kid c82_15 1):= .mk _
noncomputable def L82_22:Lt (kid c82_21 0):= .mk _
theorem S82:D tb c82_0=D tb (.seq (Rg L82_1) c82_2)∧D tb c82_2=D tb (.seq (Rg L82_3) c82_4)∧D tb c82_4=D tb (.seq c82_5 c82_21)∧D tb c82_5=D tb (.seq (Rg L82_6) c82_7)∧D tb c82_7=D tb (.block 0 c82_8)∧D tb c82_9=D tb (.seq (Rg L82_10) c82_11)∧D tb c82_11=D tb (.seq c82_12 c82_15)∧D tb c82_12=D tb (.cond (.tmp 12) .skip (.exit 0))∧D tb c82_15=D tb (.seq c82_16 (Rg L82_20))∧D tb c82_16=D tb (.block 1 c82_17)∧D tb c82_17=D tb (.seq (Rg L82_18) (Rg L82_19))∧D tb c82_21=D tb (.seq (Rg L82_22) .ret):=⟨rfl,rfl,rfl,rfl,rfl,rfl,rfl,rfl,rfl,rfl,rfl,rfl⟩
def c83_0:=bodyOf Tryz.f83
def run83{args:List V}{st:St}(ha:args.length≤8):=a_1 (T:=tb) (fid:=83) (st:=st) (by rw[a_];exact Tryz.func83) (by rw[a_];rfl) (c:=c83_0) (rs:= #[.cell 2 45]) rfl rfl rfl ha
def c83_2:=kid c83_0 1
def c83_4:=kid c83_2 1
noncomputable def L83_1:Lt (kid c83_0 0):= .mk _
noncomputable def L83_3:Lt (kid c83_2 0):= .mk _
noncomputable def L83_5:Lt (kid c83_4 0):= .mk _
theorem S83:D tb c83_0=D tb (.seq (Rg L83_1) c83_2)∧D tb c83_2=D tb (.seq (Rg L83_3) c83_4)∧D tb c83_4=D tb (.seq (Rg L83_5) .ret):=⟨rfl,rfl,rfl⟩
def c84_0:=bodyOf Tryz.f84
def run84{args:List V}{st:St}(ha:args.length≤25):=a_1 (T:=tb) (fid:=84) (st:=st) (by rw[a_];exact Tryz.func84) (by rw[a_];rfl) (c:=c84_0) (rs:= #[.tmp 4]) rfl rfl rfl ha
def c84_2:=kid c84_0 1
def c84_4:=kid c84_2 1
def c84_5:=kid c84_4 0
def c84_7:=kid c84_5 1
def c84_8:=kid c84_7 0
def c84_9:=kid c84_8 0
def c84_11:=kid c84_9 1
def c84_12:=kid c84_11 0
def c84_15:=kid c84_11 1
def c84_16:=kid c84_15 0
def c84_17:=kid c84_16 0
def c84_21:=kid c84_4 1
theorem p84_8:D tb c84_8 rd 25 f m st=loopK tb rd c84_8 25 f m st fun e fr st=>some (e,fr,st):=a_8
theorem e84_8:c84_8= .loop c84_9:=rfl
theorem w84_8:writes c84_9=some [12,13,6,14,15,16,17,18,19,20,21,22,23,11]:=by kernel_rfl
noncomputable def L84_1:Lt (kid c84_0 0):= .mk _
noncomputable def L84_3:Lt (kid c84_2 0):= .mk _
noncomputable def L84_6:Lt (kid c84_5 0):= .mk _
noncomputable def L84_10:Lt (kid c84_9 0):= .mk _
noncomputable def L84_18:Lt (kid c84_17 0):= .mk _
noncomputable def L84_19:Lt (kid c84_17 1):= .mk _
noncomputable def L84_20:Lt (kid c84_15 1):= .mk _
noncomputable def L84_22:Lt (kid c84_21 0):= .mk _
theorem S84:D tb c84_0=D tb (.seq (Rg L84_1) c84_2)∧D tb c84_2=D tb (.seq (Rg L84_3) c84_4)∧D tb c84_4=D tb (.seq c84_5 c84_21)∧D tb c84_5=D tb (.seq (Rg L84_6) c84_7)∧D tb c84_7=D tb (.block 0 c84_8)∧D tb c84_9=D tb (.seq (Rg L84_10) c84_11)∧D tb c84_11=D tb (.seq c84_12 c84_15)∧D tb c84_12=D tb (.cond (.tmp 12) .skip (.exit 0))∧D tb c84_15=D tb (.seq c84_16 (Rg L84_20))∧D tb c84_16=D tb (.block 1 c84_17)∧D tb c84_17=D tb (.seq (Rg L84_18) (Rg L84_19))∧D tb c84_21=D tb (.seq (Rg L84_22) .ret):=⟨rfl,rfl,rfl,rfl,rfl,rfl,rfl,rfl,rfl,rfl,rfl,rfl⟩
def c85_0:=bodyOf Tryz.f85
def run85{args:List V}{st:St}(ha:args.length≤16):=a_1 (T:=tb) (fid:=85) (st:=st) (by rw[a_];exact Tryz.func85) (by rw[a_];rfl) (c:=c85_0) (rs:= #[.cell 2 65]) rfl rfl rfl ha
def c85_2:=kid c85_0 1
noncomputable def o85_3:=opsOf (kid c85_2 0)
def c85_4:=kid c85_2 1
noncomputable def l85_3:{l:List DStep//drawAt o85_3 [(0,0),(1,1),(3,0),(4,8),(6,0),(7,64),(2,3),(9,223),(5,31),(8,255),(10,1023),(11,2047),(12,4095),(13,8191),(14,16383)]=l}:=by refine⟨?_,?h⟩;case h=>simp only[drawAt,entsAt,o85_3,c85_2,c85_0,opsOf,kid,bodyOf,Tryz.f85,Option.getD_some,List.map,stepOf,Option.map,List.getElem?_toArray,List.getElem?_cons_succ,List.getElem?_cons_zero,Option.bind_some];rfl
theorem q85_3:D tb (.region 1 o85_3 true) rd 16 f m st=regB (evDraws tb (run tb) l85_3.1 [] (mk 16 f m) st):=o_8 [(0,0),(1,1),(3,0),(4,8),(6,0),(7,64),(2,3),(9,223),(5,31),(8,255),(10,1023),(11,2047),(12,4095),(13,8191),(14,16383)] (by kernel_rfl) l85_3.2
noncomputable def L85_1:Lt (kid c85_0 0):= .mk _
noncomputable def L85_5:Lt (kid c85_4 0):= .mk _
theorem S85:D tb c85_0=D tb (.seq (Rg L85_1) c85_2)∧D tb c85_2=D tb (.seq (.region 1 o85_3 true) c85_4)∧D tb c85_4=D tb (.seq (Rg L85_5) .ret):=⟨rfl,rfl,rfl⟩
def c86_0:=bodyOf Tryz.f86
def run86{args:List V}{st:St}(ha:args.length≤25):=a_1 (T:=tb) (fid:=86) (st:=st) (by rw[a_];exact Tryz.func86) (by rw[a_];rfl) (c:=c86_0) (rs:= #[.tmp 4]) rfl rfl rfl ha
def c86_2:=kid c86_0 1
def c86_4:=kid c86_2 1
def c86_5:=kid c86_4 0
def c86_7:=kid c86_5 1
def c86_8:=kid c86_7 0
def c86_9:=kid c86_8 0
def c86_11:=kid c86_9 1
def c86_12:=kid c86_11 0
def c86_15:=kid c86_11 1
def c86_16:=kid c86_15 0
def c86_17:=kid c86_16 0
def c86_21:=kid c86_4 1
theorem p86_8:D tb c86_8 rd 25 f m st=loopK tb rd c86_8 25 f m st fun e fr st=>some (e,fr,st):=a_8
theorem e86_8:c86_8= .loop c86_9:=rfl
theorem w86_8:writes c86_9=some [12,13,6,14,15,16,17,18,19,20,21,22,23,11]:=by kernel_rfl
noncomputable def L86_1:Lt (kid c86_0 0):= .mk _
noncomputable def L86_3:Lt (kid c86_2 0):= .mk _
noncomputable def L86_6:Lt (kid c86_5 0):= .mk _
noncomputable def L86_10:Lt (kid c86_9 0):= .mk _
noncomputable def L86_18:Lt (kid c86_17 0):= .mk _
noncomputable def L86_19:Lt (kid c86_17 1):= .mk _
noncomputable def L86_20:Lt (kid c86_15 1):= .mk _
noncomputable def L86_22:Lt (kid c86_21 0):= .mk _
theorem S86:D tb c86_0=D tb (.seq (Rg L86_1) c86_2)∧D tb c86_2=D tb (.seq (Rg L86_3) c86_4)∧D tb c86_4=D tb (.seq c86_5 c86_21)∧D tb c86_5=D tb (.seq (Rg L86_6) c86_7)∧D tb c86_7=D tb (.block 0 c86_8)∧D tb c86_9=D tb (.seq (Rg L86_10) c86_11)∧D tb c86_11=D tb (.seq c86_12 c86_15)∧D tb c86_12=D tb (.cond (.tmp 12) .skip (.exit 0))∧D tb c86_15=D tb (.seq c86_16 (Rg L86_20))∧D tb c86_16=D tb (.block 1 c86_17)∧D tb c86_17=D tb (.seq (Rg L86_18) (Rg L86_19))∧D tb c86_21=D tb (.seq (Rg L86_22) .ret):=⟨rfl,rfl,rfl,rfl,rfl,rfl,rfl,rfl,rfl,rfl,rfl,rfl⟩
def c87_0:=bodyOf Tryz.f87
def run87{args:List V}{st:St}(ha:args.length≤42):=a_1 (T:=tb) (fid:=87) (st:=st) (by rw[a_];exact Tryz.func87) (by rw[a_];rfl) (c:=c87_0) (rs:= #[.cell 2 75]) rfl rfl rfl ha
def c87_2:=kid c87_0 1
def c87_4:=kid c87_2 1
def c87_6:=kid c87_4 1
noncomputable def o87_7:=opsOf (kid c87_6 0)
def c87_8:=kid c87_6 1
noncomputable def o87_9:=opsOf (kid c87_8 0)
def c87_10:=kid c87_8 1
noncomputable def l87_7:{l:List DStep//drawAt o87_7 [(0,0),(1,0),(2,0),(3,4),(4,12),(5,28),(7,0),(8,128),(9,384),(10,896),(6,60),(11,2044),(12,4093),(13,8189),(14,16381),(15,32767),(16,65535),(17,131071)]=l}:=by refine⟨?_,?h⟩;case h=>simp only[drawAt,entsAt,o87_7,c87_6,c87_4,c87_2,c87_0,opsOf,kid,bodyOf,Tryz.f87,Option.getD_some,List.map,stepOf,Option.map,List.getElem?_toArray,List.getElem?_cons_succ,List.getElem?_cons_zero,Option.bind_some];rfl
theorem q87_7:D tb (.region 3 o87_7 true) rd 42 f m st=regB (evDraws tb (run tb) l87_7.1 [] (mk 42 f m) st):=o_8 [(0,0),(1,0),(2,0),(3,4),(4,12),(5,28),(7,0),(8,128),(9,384),(10,896),(6,60),(11,2044),(12,4093),(13,8189),(14,16381),(15,32767),(16,65535),(17,131071)] (by kernel_rfl) l87_7.2
noncomputable def l87_9:{l:List DStep//drawAt o87_9 [(0,0),(1,0),(2,0),(3,4),(4,12),(5,28),(7,0),(8,128),(9,384),(10,896),(6,60),(11,2044),(12,4093),(13,8189),(14,16381),(15,32767),(16,65535),(17,131071)]=l}:=by refine⟨?_,?h⟩;case h=>simp only[drawAt,entsAt,o87_9,c87_8,c87_6,c87_4,c87_2,c87_0,opsOf,kid,bodyOf,Tryz.f87,Option.getD_some,List.map,stepOf,Option.map,List.getElem?_toArray,List.getElem?_cons_succ,List.getElem?_cons_zero,Option.bind_some];rfl
theorem q87_9:D tb (.region 4 o87_9 true) rd 42 f m st=regB (evDraws tb (run tb) l87_9.1 [] (mk 42 f m) st):=o_8 [(0,0),(1,0),(2,0),(3,4),(4,12),(5,28),(7,0),(8,128),(9,384),(10,896),(6,60),(11,2044),(12,4093),(13,8189),(14,16381),(15,32767),(16,65535),(17,131071)] (by kernel_rfl) l87_9.2
noncomputable def L87_1:Lt (kid c87_0 0):= .mk _
noncomputable def L87_3:Lt (kid c87_2 0):= .mk _
noncomputable def L87_5:Lt (kid c87_4 0):= .mk _
noncomputable def L87_11:Lt (kid c87_10 0):= .mk _
theorem S87:D tb c87_0=D tb (.seq (Rg L87_1) c87_2)∧D tb c87_2=D tb (.seq (Rg L87_3) c87_4)∧D tb c87_4=D tb (.seq (Rg L87_5) c87_6)∧D tb c87_6=D tb (.seq (.region 3 o87_7 true) c87_8)∧D tb c87_8=D tb (.seq (.region 4 o87_9 true) c87_10)∧D tb c87_10=D tb (.seq (Rg L87_11) .ret):=⟨rfl,rfl,rfl,rfl,rfl,rfl⟩
def c89_0:=bodyOf Tryz.f89
def run89{args:List V}{st:St}(ha:args.length≤8):=a_1 (T:=tb) (fid:=89) (st:=st) (by rw[a_];exact Tryz.func89) (by rw[a_];rfl) (c:=c89_0) (rs:= #[.tmp 4]) rfl rfl rfl ha
def c89_2:=kid c89_0 1
noncomputable def L89_1:Lt (kid c89_0 0):= .mk _
noncomputable def L89_3:Lt (kid c89_2 0):= .mk _
theorem S89:D tb c89_0=D tb (.seq (Rg L89_1) c89_2)∧D tb c89_2=D tb (.seq (Rg L89_3) .ret):=⟨rfl,rfl⟩
def c110_0:=bodyOf Tryz.f110
def run110{args:List V}{st:St}(ha:args.length≤9):=b_1 (T:=tb) (fid:=110) (st:=st) (by rw[a_];exact Tryz.func110) (by rw[a_];rfl) (c:=c110_0) (rs:= #[.tmp 4]) rfl rfl rfl ha
def c110_2:=kid c110_0 1
noncomputable def L110_1:Lt (kid c110_0 0):= .mk _
noncomputable def L110_3:Lt (kid c110_2 0):= .mk _
theorem S110:D tb c110_0=D tb (.seq (Rg L110_1) c110_2)∧D tb c110_2=D tb (.seq (Rg L110_3) .ret):=⟨rfl,rfl⟩
def c111_0:=bodyOf Tryz.f111
def run111{args:List V}{st:St}(ha:args.length≤8):=z_0 (T:=tb) (fid:=111) (st:=st) (by rw[a_];exact Tryz.func111) (by rw[a_];rfl) (c:=c111_0) (rs:= #[.tmp 3]) rfl rfl rfl ha
def c111_2:=kid c111_0 1
noncomputable def L111_1:Lt (kid c111_0 0):= .mk _
noncomputable def L111_3:Lt (kid c111_2 0):= .mk _
theorem S111:D tb c111_0=D tb (.seq (Rg L111_1) c111_2)∧D tb c111_2=D tb (.seq (Rg L111_3) .ret):=⟨rfl,rfl⟩
def c112_0:=bodyOf Tryz.f112
def run112{args:List V}{st:St}(ha:args.length≤9):=b_1 (T:=tb) (fid:=112) (st:=st) (by rw[a_];exact Tryz.func112) (by rw[a_];rfl) (c:=c112_0) (rs:= #[.tmp 4]) rfl rfl rfl ha
def c112_2:=kid c112_0 1
noncomputable def L112_1:Lt (kid c112_0 0):= .mk _
noncomputable def L112_3:Lt (kid c112_2 0):= .mk _
theorem S112:D tb c112_0=D tb (.seq (Rg L112_1) c112_2)∧D tb c112_2=D tb (.seq (Rg L112_3) .ret):=⟨rfl,rfl⟩
def c113_0:=bodyOf Tryz.f113
def run113{args:List V}{st:St}(ha:args.length≤8):=z_0 (T:=tb) (fid:=113) (st:=st) (by rw[a_];exact Tryz.func113) (by rw[a_];rfl) (c:=c113_0) (rs:= #[.tmp 3]) rfl rfl rfl ha
def c113_2:=kid c113_0 1
noncomputable def L113_1:Lt (kid c113_0 0):= .mk _
noncomputable def L113_3:Lt (kid c113_2 0):= .mk _
theorem S113:D tb c113_0=D tb (.seq (Rg L113_1) c113_2)∧D tb c113_2=D tb (.seq (Rg L113_3) .ret):=⟨rfl,rfl⟩
def c114_0:=bodyOf Tryz.f114
def run114{args:List V}{st:St}(ha:args.length≤9):=b_1 (T:=tb) (fid:=114) (st:=st) (by rw[a_];exact Tryz.func114) (by rw[a_];rfl) (c:=c114_0) (rs:= #[.tmp 4]) rfl rfl rfl ha
def c114_2:=kid c114_0 1
noncomputable def L114_1:Lt (kid c114_0 0):= .mk _
noncomputable def L114_3:Lt (kid c114_2 0):= .mk _
theorem S114:D tb c114_0=D tb (.seq (Rg L114_1) c114_2)∧D tb c114_2=D tb (.seq (Rg L114_3) .ret):=⟨rfl,rfl⟩
def c115_0:=bodyOf Tryz.f115
def run115{args:List V}{st:St}(ha:args.length≤8):=z_0 (T:=tb) (fid:=115) (st:=st) (by rw[a_];exact Tryz.func115) (by rw[a_];rfl) (c:=c115_0) (rs:= #[.tmp 3]) rfl rfl rfl ha
def c115_2:=kid c115_0 1
noncomputable def L115_1:Lt (kid c115_0 0):= .mk _
noncomputable def L115_3:Lt (kid c115_2 0):= .mk _
theorem S115:D tb c115_0=D tb (.seq (Rg L115_1) c115_2)∧D tb c115_2=D tb (.seq (Rg L115_3) .ret):=⟨rfl,rfl⟩
def c116_0:=bodyOf Tryz.f116
def run116{args:List V}{st:St}(ha:args.length≤9):=b_1 (T:=tb) (fid:=116) (st:=st) (by rw[a_];exact Tryz.func116) (by rw[a_];rfl) (c:=c116_0) (rs:= #[.tmp 4]) rfl rfl rfl ha
def c116_2:=kid c116_0 1
noncomputable def L116_1:Lt (kid c116_0 0):= .mk _
noncomputable def L116_3:Lt (kid c116_2 0):= .mk _
theorem S116:D tb c116_0=D tb (.seq (Rg L116_1) c116_2)∧D tb c116_2=D tb (.seq (Rg L116_3) .ret):=⟨rfl,rfl⟩
def c117_0:=bodyOf Tryz.f117
def run117{args:List V}{st:St}(ha:args.length≤8):=z_0 (T:=tb) (fid:=117) (st:=st) (by rw[a_];exact Tryz.func117) (by rw[a_];rfl) (c:=c117_0) (rs:= #[.tmp 3]) rfl rfl rfl ha
def c117_2:=kid c117_0 1
noncomputable def L117_1:Lt (kid c117_0 0):= .mk _
noncomputable def L117_3:Lt (kid c117_2 0):= .mk _
theorem S117:D tb c117_0=D tb (.seq (Rg L117_1) c117_2)∧D tb c117_2=D tb (.seq (Rg L117_3) .ret):=⟨rfl,rfl⟩
def c118_0:=bodyOf Tryz.f118
def run118{args:List V}{st:St}(ha:args.length≤12):=a_1 (T:=tb) (fid:=118) (st:=st) (by rw[a_];exact Tryz.func118) (by rw[a_];rfl) (c:=c118_0) (rs:= #[.tmp 2]) rfl rfl rfl ha
def c118_2:=kid c118_0 1
noncomputable def L118_1:Lt (kid c118_0 0):= .mk _
noncomputable def L118_3:Lt (kid c118_2 0):= .mk _
theorem S118:D tb c118_0=D tb (.seq (Rg L118_1) c118_2)∧D tb c118_2=D tb (.seq (Rg L118_3) .ret):=⟨rfl,rfl⟩
def c119_0:=bodyOf Tryz.f119
def run119{args:List V}{st:St}(ha:args.length≤9):=a_1 (T:=tb) (fid:=119) (st:=st) (by rw[a_];exact Tryz.func119) (by rw[a_];rfl) (c:=c119_0) (rs:= #[.tmp 4]) rfl rfl rfl ha
def c119_2:=kid c119_0 1
noncomputable def L119_1:Lt (kid c119_0 0):= .mk _
noncomputable def L119_3:Lt (kid c119_2 0):= .mk _
theorem S119:D tb c119_0=D tb (.seq (Rg L119_1) c119_2)∧D tb c119_2=D tb (.seq (Rg L119_3) .ret):=⟨rfl,rfl⟩
def c120_0:=bodyOf Tryz.f120
def run120{args:List V}{st:St}(ha:args.length≤22):=a_1 (T:=tb) (fid:=120) (st:=st) (by rw[a_];exact Tryz.func120) (by rw[a_];rfl) (c:=c120_0) (rs:= #[.tmp 2]) rfl rfl rfl ha
def c120_2:=kid c120_0 1
noncomputable def L120_1:Lt (kid c120_0 0):= .mk _
noncomputable def L120_3:Lt (kid c120_2 0):= .mk _
theorem S120:D tb c120_0=D tb (.seq (Rg L120_1) c120_2)∧D tb c120_2=D tb (.seq (Rg L120_3) .ret):=⟨rfl,rfl⟩
def c121_0:=bodyOf Tryz.f121
theorem bh_7{args:List V}{st:St}(ha:args.length≤8):evBody tb (run tb) Tryz.f121 args st=leave tb [.tmp 2] ((run tb).code none c121_0 (mk 8 (argF args) []) st):=F_2 (c:=c121_0) (rs:= #[.tmp 2]) rfl rfl rfl ha
theorem bz_6:tb.fn 121=some Tryz.f121:=by rw[a_];exact Tryz.func121
theorem bw_0:tb.mode 121= .split:=by rw[a_];rfl
def c121_2:=kid c121_0 1
def c121_3:=kid c121_2 0
def c121_5:=kid c121_3 1
def c121_6:=kid c121_5 0
def c121_10:=kid c121_2 1
noncomputable def L121_1:Lt (kid c121_0 0):= .mk _
noncomputable def L121_4:Lt (kid c121_3 0):= .mk _
noncomputable def L121_7:Lt (kid c121_6 0):= .mk _
noncomputable def L121_11:Lt (kid c121_10 0):= .mk _
theorem S121:D tb c121_0=D tb (.seq (Rg L121_1) c121_2)∧D tb c121_2=D tb (.seq c121_3 c121_10)∧D tb c121_3=D tb (.seq (Rg L121_4) c121_5)∧D tb c121_5=D tb (.cond (.tmp 4) c121_6 .skip)∧D tb c121_6=D tb (.seq (Rg L121_7) .ret)∧D tb c121_10=D tb (.seq (Rg L121_11) .ret):=⟨rfl,rfl,rfl,rfl,rfl,rfl⟩
def c122_0:=bodyOf Tryz.f122
theorem bb_6{args:List V}{st:St}(ha:args.length≤8):evBody tb (run tb) Tryz.f122 args st=leave tb [.tmp 2] ((run tb).code none c122_0 (mk 8 (argF args) []) st):=F_2 (c:=c122_0) (rs:= #[.tmp 2]) rfl rfl rfl ha
theorem bA_4:tb.fn 122=some Tryz.f122:=by rw[a_];exact Tryz.func122
theorem bz_9:tb.mode 122= .split:=by rw[a_];rfl
def c122_2:=kid c122_0 1
def c122_3:=kid c122_2 0
def c122_5:=kid c122_3 1
def c122_6:=kid c122_5 0
def c122_10:=kid c122_2 1
noncomputable def L122_1:Lt (kid c122_0 0):= .mk _
noncomputable def L122_4:Lt (kid c122_3 0):= .mk _
noncomputable def L122_7:Lt (kid c122_6 0):= .mk _
noncomputable def L122_11:Lt (kid c122_10 0):= .mk _
theorem S122:D tb c122_0=D tb (.seq (Rg L122_1) c122_2)∧D tb c122_2=D tb (.seq c122_3 c122_10)∧D tb c122_3=D tb (.seq (Rg L122_4) c122_5)∧D tb c122_5=D tb (.cond (.tmp 4) c122_6 .skip)∧D tb c122_6=D tb (.seq (Rg L122_7) .ret)∧D tb c122_10=D tb (.seq (Rg L122_11) .ret):=⟨rfl,rfl,rfl,rfl,rfl,rfl⟩
def c123_0:=bodyOf Tryz.f123
theorem aZ_8{args:List V}{st:St}(ha:args.length≤8):evBody tb (run tb) Tryz.f123 args st=leave tb [.tmp 2] ((run tb).code none c123_0 (mk 8 (argF args) []) st):=F_2 (c:=c123_0) (rs:= #[.tmp 2]) rfl rfl rfl ha
theorem bx_6:tb.fn 123=some Tryz.f123:=by rw[a_];exact Tryz.func123
theorem bw_1:tb.mode 123= .split:=by rw[a_];rfl
def c123_2:=kid c123_0 1
def c123_3:=kid c123_2 0
def c123_5:=kid c123_3 1
def c123_6:=kid c123_5 0
def c123_10:=kid c123_2 1
noncomputable def L123_1:Lt (kid c123_0 0):= .mk _
noncomputable def L123_4:Lt (kid c123_3 0):= .mk _
noncomputable def L123_7:Lt (kid c123_6 0):= .mk _
noncomputable def L123_11:Lt (kid c123_10 0):= .mk _
theorem S123:D tb c123_0=D tb (.seq (Rg L123_1) c123_2)∧D tb c123_2=D tb (.seq c123_3 c123_10)∧D tb c123_3=D tb (.seq (Rg L123_4) c123_5)∧D tb c123_5=D tb (.cond (.tmp 4) c123_6 .skip)∧D tb c123_6=D tb (.seq (Rg L123_7) .ret)∧D tb c123_10=D tb (.seq (Rg L123_11) .ret):=⟨rfl,rfl,rfl,rfl,rfl,rfl⟩
def c124_0:=bodyOf Tryz.f124
theorem bb_5{args:List V}{st:St}(ha:args.length≤8):evBody tb (run tb) Tryz.f124 args st=leave tb [.tmp 2] ((run tb).code none c124_0 (mk 8 (argF args) []) st):=F_2 (c:=c124_0) (rs:= #[.tmp 2]) rfl rfl rfl ha
theorem by_6:tb.fn 124=some Tryz.f124:=by rw[a_];exact Tryz.func124
theorem bx_7:tb.mode 124= .split:=by rw[a_];rfl
def c124_2:=kid c124_0 1
def c124_3:=kid c124_2 0
def c124_5:=kid c124_3 1
def c124_6:=kid c124_5 0
def c124_10:=kid c124_2 1
noncomputable def L124_1:Lt (kid c124_0 0):= .mk _
noncomputable def L124_4:Lt (kid c124_3 0):= .mk _
noncomputable def L124_7:Lt (kid c124_6 0):= .mk _
noncomputable def L124_11:Lt (kid c124_10 0):= .mk _
theorem S124:D tb c124_0=D tb (.seq (Rg L124_1) c124_2)∧D tb c124_2=D tb (.seq c124_3 c124_10)∧D tb c124_3=D tb (.seq (Rg L124_4) c124_5)∧D tb c124_5=D tb (.cond (.tmp 4) c124_6 .skip)∧D tb c124_6=D tb (.seq (Rg L124_7) .ret)∧D tb c124_10=D tb (.seq (Rg L124_11) .ret):=⟨rfl,rfl,rfl,rfl,rfl,rfl⟩
def c125_0:=bodyOf Tryz.f125
def run125{args:List V}{st:St}(ha:args.length≤25):=a_1 (T:=tb) (fid:=125) (st:=st) (by rw[a_];exact Tryz.func125) (by rw[a_];rfl) (c:=c125_0) (rs:= #[.tmp 4]) rfl rfl rfl ha
def c125_2:=kid c125_0 1
def c125_4:=kid c125_2 1
def c125_5:=kid c125_4 0
def c125_7:=kid c125_5 1
def c125_8:=kid c125_7 0
def c125_9:=kid c125_8 0
def c125_11:=kid c125_9 1
def c125_12:=kid c125_11 0
def c125_15:=kid c125_11 1
def c125_16:=kid c125_15 0
def c125_17:=kid c125_16 0
def c125_21:=kid c125_4 1
theorem p125_8:D tb c125_8 rd 25 f m st=loopK tb rd c125_8 25 f m st fun e fr st=>some (e,fr,st):=a_8
theorem e125_8:c125_8= .loop c125_9:=rfl
theorem w125_8:writes c125_9=some [12,13,6,14,15,16,17,18,19,20,21,22,23,11]:=by kernel_rfl
noncomputable def L125_1:Lt (kid c125_0 0):= .mk _
noncomputable def L125_3:Lt (kid c125_2 0):= .mk _
noncomputable def L125_6:Lt (kid c125_5 0):= .mk _
noncomputable def L125_10:Lt (kid c125_9 0):= .mk _
noncomputable def L125_18:Lt (kid c125_17 0):= .mk _
noncomputable def L125_19:Lt (kid c125_17 1):= .mk _
noncomputable def L125_20:Lt (kid c125_15 1):= .mk _
noncomputable def L125_22:Lt (kid c125_21 0):= .mk _
theorem S125:D tb c125_0=D tb (.seq (Rg L125_1) c125_2)∧D tb c125_2=D tb (.seq (Rg L125_3) c125_4)∧D tb c125_4=D tb (.seq c125_5 c125_21)∧D tb c125_5=D tb (.seq (Rg L125_6) c125_7)∧D tb c125_7=D tb (.block 0 c125_8)∧D tb c125_9=D tb (.seq (Rg L125_10) c125_11)∧D tb c125_11=D tb (.seq c125_12 c125_15)∧D tb c125_12=D tb (.cond (.tmp 12) .skip (.exit 0))∧D tb c125_15=D tb (.seq c125_16 (Rg L125_20))∧D tb c125_16=D tb (.block 1 c125_17)∧D tb c125_17=D tb (.seq (Rg L125_18) (Rg L125_19))∧D tb c125_21=D tb (.seq (Rg L125_22) .ret):=⟨rfl,rfl,rfl,rfl,rfl,rfl,rfl,rfl,rfl,rfl,rfl,rfl⟩
def c126_0:=bodyOf Tryz.f126
def run126{args:List V}{st:St}(ha:args.length≤12):=a_1 (T:=tb) (fid:=126) (st:=st) (by rw[a_];exact Tryz.func126) (by rw[a_];rfl) (c:=c126_0) (rs:= #[.cell 2 77]) rfl rfl rfl ha
def c126_2:=kid c126_0 1
noncomputable def o126_3:=opsOf (kid c126_2 0)
def c126_4:=kid c126_2 1
noncomputable def l126_3:{l:List DStep//drawAt o126_3 [(0,0),(1,1),(3,0),(4,8),(2,3),(6,31),(5,31),(7,127),(8,255),(9,511)]=l}:=by refine⟨?_,?h⟩;case h=>simp only[drawAt,entsAt,o126_3,c126_2,c126_0,opsOf,kid,bodyOf,Tryz.f126,Option.getD_some,List.map,stepOf,Option.map,List.getElem?_toArray,List.getElem?_cons_succ,List.getElem?_cons_zero,Option.bind_some];rfl
theorem q126_3:D tb (.region 1 o126_3 true) rd 12 f m st=regB (evDraws tb (run tb) l126_3.1 [] (mk 12 f m) st):=o_8 [(0,0),(1,1),(3,0),(4,8),(2,3),(6,31),(5,31),(7,127),(8,255),(9,511)] (by kernel_rfl) l126_3.2
noncomputable def L126_1:Lt (kid c126_0 0):= .mk _
noncomputable def L126_5:Lt (kid c126_4 0):= .mk _
theorem S126:D tb c126_0=D tb (.seq (Rg L126_1) c126_2)∧D tb c126_2=D tb (.seq (.region 1 o126_3 true) c126_4)∧D tb c126_4=D tb (.seq (Rg L126_5) .ret):=⟨rfl,rfl,rfl⟩
def c127_0:=bodyOf Tryz.f127
def run127{args:List V}{st:St}(ha:args.length≤8):=a_1 (T:=tb) (fid:=127) (st:=st) (by rw[a_];exact Tryz.func127) (by rw[a_];rfl) (c:=c127_0) (rs:= #[.cell 2 69]) rfl rfl rfl ha
def c127_2:=kid c127_0 1
def c127_4:=kid c127_2 1
noncomputable def L127_1:Lt (kid c127_0 0):= .mk _
noncomputable def L127_3:Lt (kid c127_2 0):= .mk _
noncomputable def L127_5:Lt (kid c127_4 0):= .mk _
theorem S127:D tb c127_0=D tb (.seq (Rg L127_1) c127_2)∧D tb c127_2=D tb (.seq (Rg L127_3) c127_4)∧D tb c127_4=D tb (.seq (Rg L127_5) .ret):=⟨rfl,rfl,rfl⟩
def c128_0:=bodyOf Tryz.f128
def run128{args:List V}{st:St}(ha:args.length≤25):=a_1 (T:=tb) (fid:=128) (st:=st) (by rw[a_];exact Tryz.func128) (by rw[a_];rfl) (c:=c128_0) (rs:= #[.tmp 4]) rfl rfl rfl ha
def c128_2:=kid c128_0 1
def c128_4:=kid c128_2 1
def c128_5:=kid c128_4 0
def c128_7:=kid c128_5 1
def c128_8:=kid c128_7 0
def c128_9:=kid c128_8 0
def c128_11:=kid c128_9 1
def c128_12:=kid c128_11 0
def c128_15:=kid c128_11 1
def c128_16:=kid c128_15 0
def c128_17:=kid c128_16 0
def c128_21:=kid c128_4 1
theorem p128_8:D tb c128_8 rd 25 f m st=loopK tb rd c128_8 25 f m st fun e fr st=>some (e,fr,st):=a_8
theorem e128_8:c128_8= .loop c128_9:=rfl
theorem w128_8:writes c128_9=some [12,13,6,14,15,16,17,18,19,20,21,22,23,11]:=by kernel_rfl
noncomputable def L128_1:Lt (kid c128_0 0):= .mk _
noncomputable def L128_3:Lt (kid c128_2 0):= .mk _
noncomputable def L128_6:Lt (kid c128_5 0):= .mk _
noncomputable def L128_10:Lt (kid c128_9 0):= .mk _
noncomputable def L128_18:Lt (kid c128_17 0):= .mk _
noncomputable def L128_19:Lt (kid c128_17 1):= .mk _
noncomputable def L128_20:Lt (kid c128_15 1):= .mk _
noncomputable def L128_22:Lt (kid c128_21 0):= .mk _
theorem S128:D tb c128_0=D tb (.seq (Rg L128_1) c128_2)∧D tb c128_2=D tb (.seq (Rg L128_3) c128_4)∧D tb c128_4=D tb (.seq c128_5 c128_21)∧D tb c128_5=D tb (.seq (Rg L128_6) c128_7)∧D tb c128_7=D tb (.block 0 c128_8)∧D tb c128_9=D tb (.seq (Rg L128_10) c128_11)∧D tb c128_11=D tb (.seq c128_12 c128_15)∧D tb c128_12=D tb (.cond (.tmp 12) .skip (.exit 0))∧D tb c128_15=D tb (.seq c128_16 (Rg L128_20))∧D tb c128_16=D tb (.block 1 c128_17)∧D tb c128_17=D tb (.seq (Rg L128_18) (Rg L128_19))∧D tb c128_21=D tb (.seq (Rg L128_22) .ret):=⟨rfl,rfl,rfl,rfl,rfl,rfl,rfl,rfl,rfl,rfl,rfl,rfl⟩
def c129_0:=bodyOf Tryz.f129
theorem bd_6{args:List V}{st:St}(ha:args.length≤8):evBody tb (run tb) Tryz.f129 args st=leave tb [.tmp 2] ((run tb).code none c129_0 (mk 8 (argF args) []) st):=F_2 (c:=c129_0) (rs:= #[.tmp 2]) rfl rfl rfl ha
theorem bz_8:tb.fn 129=some Tryz.f129:=by rw[a_];exact Tryz.func129
theorem bw_3:tb.mode 129= .shut2:=by rw[a_];rfl
def c129_2:=kid c129_0 1
def c129_3:=kid c129_2 0
def c129_5:=kid c129_3 1
def c129_6:=kid c129_5 0
def c129_10:=kid c129_2 1
noncomputable def L129_1:Lt (kid c129_0 0):= .mk _
noncomputable def L129_4:Lt (kid c129_3 0):= .mk _
noncomputable def L129_7:Lt (kid c129_6 0):= .mk _
noncomputable def L129_11:Lt (kid c129_10 0):= .mk _
theorem S129:D tb c129_0=D tb (.seq (Rg L129_1) c129_2)∧D tb c129_2=D tb (.seq c129_3 c129_10)∧D tb c129_3=D tb (.seq (Rg L129_4) c129_5)∧D tb c129_5=D tb (.cond (.tmp 4) c129_6 .skip)∧D tb c129_6=D tb (.seq (Rg L129_7) .ret)∧D tb c129_10=D tb (.seq (Rg L129_11) .ret):=⟨rfl,rfl,rfl,rfl,rfl,rfl⟩
def c130_0:=bodyOf Tryz.f130
theorem bb_9{args:List V}{st:St}(ha:args.length≤8):evBody tb (run tb) Tryz.f130 args st=leave tb [.tmp 2] ((run tb).code none c130_0 (mk 8 (argF args) []) st):=F_2 (c:=c130_0) (rs:= #[.tmp 2]) rfl rfl rfl ha
theorem bz_:tb.fn 130=some Tryz.f130:=by rw[a_];exact Tryz.func130
theorem bA_2:tb.mode 130= .shut2:=by rw[a_];rfl
def c130_2:=kid c130_0 1
def c130_3:=kid c130_2 0
def c130_5:=kid c130_3 1
def c130_6:=kid c130_5 0
def c130_10:=kid c130_2 1
noncomputable def L130_1:Lt (kid c130_0 0):= .mk _
noncomputable def L130_4:Lt (kid c130_3 0):= .mk _
noncomputable def L130_7:Lt (kid c130_6 0):= .mk _
noncomputable def L130_11:Lt (kid c130_10 0):= .mk _
theorem S130:D tb c130_0=D tb (.seq (Rg L130_1) c130_2)∧D tb c130_2=D tb (.seq c130_3 c130_10)∧D tb c130_3=D tb (.seq (Rg L130_4) c130_5)∧D tb c130_5=D tb (.cond (.tmp 4) c130_6 .skip)∧D tb c130_6=D tb (.seq (Rg L130_7) .ret)∧D tb c130_10=D tb (.seq (Rg L130_11) .ret):=⟨rfl,rfl,rfl,rfl,rfl,rfl⟩
def c131_0:=bodyOf Tryz.f131
def run131{args:List V}{st:St}(ha:args.length≤19):=b_1 (T:=tb) (fid:=131) (st:=st) (by rw[a_];exact Tryz.func131) (by rw[a_];rfl) (c:=c131_0) (rs:= #[.tmp 4]) rfl rfl rfl ha
def c131_2:=kid c131_0 1
def c131_3:=kid c131_2 0
def c131_5:=kid c131_3 1
def c131_6:=kid c131_5 0
def c131_7:=kid c131_6 0
def c131_9:=kid c131_7 1
def c131_10:=kid c131_9 0
def c131_13:=kid c131_9 1
def c131_14:=kid c131_13 0
def c131_15:=kid c131_14 0
def c131_17:=kid c131_15 1
def c131_19:=kid c131_17 1
def c131_20:=kid c131_19 0
def c131_25:=kid c131_2 1
theorem p131_6:D tb c131_6 rd 19 f m st=loopK tb rd c131_6 19 f m st fun e fr st=>some (e,fr,st):=a_8
theorem e131_6:c131_6= .loop c131_7:=rfl
theorem w131_6:writes c131_7=some [9,10,5,11,12,13,14,15,16,17,4,18,8]:=by kernel_rfl
noncomputable def L131_1:Lt (kid c131_0 0):= .mk _
noncomputable def L131_4:Lt (kid c131_3 0):= .mk _
noncomputable def L131_8:Lt (kid c131_7 0):= .mk _
noncomputable def L131_16:Lt (kid c131_15 0):= .mk _
noncomputable def L131_18:Lt (kid c131_17 0):= .mk _
noncomputable def L131_21:Lt (kid c131_20 0):= .mk _
noncomputable def L131_24:Lt (kid c131_13 1):= .mk _
noncomputable def L131_26:Lt (kid c131_25 0):= .mk _
theorem S131:D tb c131_0=D tb (.seq (Rg L131_1) c131_2)∧D tb c131_2=D tb (.seq c131_3 c131_25)∧D tb c131_3=D tb (.seq (Rg L131_4) c131_5)∧D tb c131_5=D tb (.block 0 c131_6)∧D tb c131_7=D tb (.seq (Rg L131_8) c131_9)∧D tb c131_9=D tb (.seq c131_10 c131_13)∧D tb c131_10=D tb (.cond (.tmp 9) .skip (.exit 0))∧D tb c131_13=D tb (.seq c131_14 (Rg L131_24))∧D tb c131_14=D tb (.block 1 c131_15)∧D tb c131_15=D tb (.seq (Rg L131_16) c131_17)∧D tb c131_17=D tb (.seq (Rg L131_18) c131_19)∧D tb c131_19=D tb (.cond (.tmp 16) c131_20 .skip)∧D tb c131_20=D tb (.seq (Rg L131_21) .ret)∧D tb c131_25=D tb (.seq (Rg L131_26) .ret):=⟨rfl,rfl,rfl,rfl,rfl,rfl,rfl,rfl,rfl,rfl,rfl,rfl,rfl,rfl⟩
def c132_0:=bodyOf Tryz.f132
def run132{args:List V}{st:St}(ha:args.length≤8):=z_0 (T:=tb) (fid:=132) (st:=st) (by rw[a_];exact Tryz.func132) (by rw[a_];rfl) (c:=c132_0) (rs:= #[.tmp 3]) rfl rfl rfl ha
def c132_2:=kid c132_0 1
noncomputable def L132_1:Lt (kid c132_0 0):= .mk _
noncomputable def L132_3:Lt (kid c132_2 0):= .mk _
theorem S132:D tb c132_0=D tb (.seq (Rg L132_1) c132_2)∧D tb c132_2=D tb (.seq (Rg L132_3) .ret):=⟨rfl,rfl⟩
def c158_0:=bodyOf Tryz.f158
def run158{args:List V}{st:St}(ha:args.length≤19):=b_1 (T:=tb) (fid:=158) (st:=st) (by rw[a_];exact Tryz.func158) (by rw[a_];rfl) (c:=c158_0) (rs:= #[.tmp 4]) rfl rfl rfl ha
def c158_2:=kid c158_0 1
def c158_3:=kid c158_2 0
def c158_5:=kid c158_3 1
def c158_6:=kid c158_5 0
def c158_7:=kid c158_6 0
def c158_9:=kid c158_7 1
def c158_10:=kid c158_9 0
def c158_13:=kid c158_9 1
def c158_14:=kid c158_13 0
def c158_15:=kid c158_14 0
def c158_17:=kid c158_15 1
def c158_19:=kid c158_17 1
def c158_20:=kid c158_19 0
def c158_25:=kid c158_2 1
theorem p158_6:D tb c158_6 rd 19 f m st=loopK tb rd c158_6 19 f m st fun e fr st=>some (e,fr,st):=a_8
theorem e158_6:c158_6= .loop c158_7:=rfl
theorem w158_6:writes c158_7=some [9,10,5,11,12,13,14,15,16,17,4,18,8]:=by kernel_rfl
noncomputable def L158_1:Lt (kid c158_0 0):= .mk _
noncomputable def L158_4:Lt (kid c158_3 0):= .mk _
noncomputable def L158_8:Lt (kid c158_7 0):= .mk _
noncomputable def L158_16:Lt (kid c158_15 0):= .mk _
noncomputable def L158_18:Lt (kid c158_17 0):= .mk _
noncomputable def L158_21:Lt (kid c158_20 0):= .mk _
noncomputable def L158_24:Lt (kid c158_13 1):= .mk _
noncomputable def L158_26:Lt (kid c158_25 0):= .mk _
theorem S158:D tb c158_0=D tb (.seq (Rg L158_1) c158_2)∧D tb c158_2=D tb (.seq c158_3 c158_25)∧D tb c158_3=D tb (.seq (Rg L158_4) c158_5)∧D tb c158_5=D tb (.block 0 c158_6)∧D tb c158_7=D tb (.seq (Rg L158_8) c158_9)∧D tb c158_9=D tb (.seq c158_10 c158_13)∧D tb c158_10=D tb (.cond (.tmp 9) .skip (.exit 0))∧D tb c158_13=D tb (.seq c158_14 (Rg L158_24))∧D tb c158_14=D tb (.block 1 c158_15)∧D tb c158_15=D tb (.seq (Rg L158_16) c158_17)∧D tb c158_17=D tb (.seq (Rg L158_18) c158_19)∧D tb c158_19=D tb (.cond (.tmp 16) c158_20 .skip)∧D tb c158_20=D tb (.seq (Rg L158_21) .ret)∧D tb c158_25=D tb (.seq (Rg L158_26) .ret):=⟨rfl,rfl,rfl,rfl,rfl,rfl,rfl,rfl,rfl,rfl,rfl,rfl,rfl,rfl⟩
def c159_0:=bodyOf Tryz.f159
def run159{args:List V}{st:St}(ha:args.length≤19):=b_1 (T:=tb) (fid:=159) (st:=st) (by rw[a_];exact Tryz.func159) (by rw[a_];rfl) (c:=c159_0) (rs:= #[.tmp 4]) rfl rfl rfl ha
def c159_2:=kid c159_0 1
def c159_3:=kid c159_2 0
def c159_5:=kid c159_3 1
def c159_6:=kid c159_5 0
def c159_7:=kid c159_6 0
def c159_9:=kid c159_7 1
def c159_10:=kid c159_9 0
def c159_13:=kid c159_9 1
def c159_14:=kid c159_13 0
def c159_15:=kid c159_14 0
def c159_17:=kid c159_15 1
def c159_19:=kid c159_17 1
def c159_20:=kid c159_19 0
def c159_25:=kid c159_2 1
theorem p159_6:D tb c159_6 rd 19 f m st=loopK tb rd c159_6 19 f m st fun e fr st=>some (e,fr,st):=a_8
theorem e159_6:c159_6= .loop c159_7:=rfl
theorem w159_6:writes c159_7=some [9,10,5,11,12,13,14,15,16,17,4,18,8]:=by kernel_rfl
noncomputable def L159_1:Lt (kid c159_0 0):= .mk _
noncomputable def L159_4:Lt (kid c159_3 0):= .mk _
noncomputable def L159_8:Lt (kid c159_7 0):= .mk _
noncomputable def L159_16:Lt (kid c159_15 0):= .mk _
noncomputable def L159_18:Lt (kid c159_17 0):= .mk _
noncomputable def L159_21:Lt (kid c159_20 0):= .mk _
noncomputable def L159_24:Lt (kid c159_13 1):= .mk _
noncomputable def L159_26:Lt (kid c159_25 0):= .mk _
theorem S159:D tb c159_0=D tb (.seq (Rg L159_1) c159_2)∧D tb c159_2=D tb (.seq c159_3 c159_25)∧D tb c159_3=D tb (.seq (Rg L159_4) c159_5)∧D tb c159_5=D tb (.block 0 c159_6)∧D tb c159_7=D tb (.seq (Rg L159_8) c159_9)∧D tb c159_9=D tb (.seq c159_10 c159_13)∧D tb c159_10=D tb (.cond (.tmp 9) .skip (.exit 0))∧D tb c159_13=D tb (.seq c159_14 (Rg L159_24))∧D tb c159_14=D tb (.block 1 c159_15)∧D tb c159_15=D tb (.seq (Rg L159_16) c159_17)∧D tb c159_17=D tb (.seq (Rg L159_18) c159_19)∧D tb c159_19=D tb (.cond (.tmp 16) c159_20 .skip)∧D tb c159_20=D tb (.seq (Rg L159_21) .ret)∧D tb c159_25=D tb (.seq (Rg L159_26) .ret):=⟨rfl,rfl,rfl,rfl,rfl,rfl,rfl,rfl,rfl,rfl,rfl,rfl,rfl,rfl⟩
def c160_0:=bodyOf Tryz.f160
def run160{args:List V}{st:St}(ha:args.length≤9):=b_1 (T:=tb) (fid:=160) (st:=st) (by rw[a_];exact Tryz.func160) (by rw[a_];rfl) (c:=c160_0) (rs:= #[.tmp 4]) rfl rfl rfl ha
def c160_2:=kid c160_0 1
noncomputable def L160_1:Lt (kid c160_0 0):= .mk _
noncomputable def L160_3:Lt (kid c160_2 0):= .mk _
theorem S160:D tb c160_0=D tb (.seq (Rg L160_1) c160_2)∧D tb c160_2=D tb (.seq (Rg L160_3) .ret):=⟨rfl,rfl⟩
def c161_0:=bodyOf Tryz.f161
def run161{args:List V}{st:St}(ha:args.length≤8):=z_0 (T:=tb) (fid:=161) (st:=st) (by rw[a_];exact Tryz.func161) (by rw[a_];rfl) (c:=c161_0) (rs:= #[.tmp 3]) rfl rfl rfl ha
def c161_2:=kid c161_0 1
noncomputable def L161_1:Lt (kid c161_0 0):= .mk _
noncomputable def L161_3:Lt (kid c161_2 0):= .mk _
theorem S161:D tb c161_0=D tb (.seq (Rg L161_1) c161_2)∧D tb c161_2=D tb (.seq (Rg L161_3) .ret):=⟨rfl,rfl⟩
def c162_0:=bodyOf Tryz.f162
def run162{args:List V}{st:St}(ha:args.length≤9):=a_1 (T:=tb) (fid:=162) (st:=st) (by rw[a_];exact Tryz.func162) (by rw[a_];rfl) (c:=c162_0) (rs:= #[.tmp 4]) rfl rfl rfl ha
def c162_2:=kid c162_0 1
noncomputable def L162_1:Lt (kid c162_0 0):= .mk _
noncomputable def L162_3:Lt (kid c162_2 0):= .mk _
theorem S162:D tb c162_0=D tb (.seq (Rg L162_1) c162_2)∧D tb c162_2=D tb (.seq (Rg L162_3) .ret):=⟨rfl,rfl⟩
def c163_0:=bodyOf Tryz.f163
def run163{args:List V}{st:St}(ha:args.length≤50):=a_1 (T:=tb) (fid:=163) (st:=st) (by rw[a_];exact Tryz.func163) (by rw[a_];rfl) (c:=c163_0) (rs:= #[.tmp 2]) rfl rfl rfl ha
def c163_2:=kid c163_0 1
def c163_4:=kid c163_2 1
def c163_6:=kid c163_4 1
noncomputable def L163_1:Lt (kid c163_0 0):= .mk _
noncomputable def L163_3:Lt (kid c163_2 0):= .mk _
noncomputable def L163_5:Lt (kid c163_4 0):= .mk _
noncomputable def L163_7:Lt (kid c163_6 0):= .mk _
theorem S163:D tb c163_0=D tb (.seq (Rg L163_1) c163_2)∧D tb c163_2=D tb (.seq (Rg L163_3) c163_4)∧D tb c163_4=D tb (.seq (Rg L163_5) c163_6)∧D tb c163_6=D tb (.seq (Rg L163_7) .ret):=⟨rfl,rfl,rfl,rfl⟩
def c164_0:=bodyOf Tryz.f164
def run164{args:List V}{st:St}(ha:args.length≤61):=a_1 (T:=tb) (fid:=164) (st:=st) (by rw[a_];exact Tryz.func164) (by rw[a_];rfl) (c:=c164_0) (rs:= #[.tmp 2]) rfl rfl rfl ha
def c164_2:=kid c164_0 1
def c164_4:=kid c164_2 1
def c164_6:=kid c164_4 1
def c164_7:=kid c164_6 0
def c164_9:=kid c164_7 1
def c164_12:=kid c164_6 1
noncomputable def L164_1:Lt (kid c164_0 0):= .mk _
noncomputable def L164_3:Lt (kid c164_2 0):= .mk _
noncomputable def L164_5:Lt (kid c164_4 0):= .mk _
noncomputable def L164_8:Lt (kid c164_7 0):= .mk _
noncomputable def L164_10:Lt (kid c164_9 0):= .mk _
noncomputable def L164_13:Lt (kid c164_12 0):= .mk _
theorem S164:D tb c164_0=D tb (.seq (Rg L164_1) c164_2)∧D tb c164_2=D tb (.seq (Rg L164_3) c164_4)∧D tb c164_4=D tb (.seq (Rg L164_5) c164_6)∧D tb c164_6=D tb (.seq c164_7 c164_12)∧D tb c164_7=D tb (.seq (Rg L164_8) c164_9)∧D tb c164_9=D tb (.cond (.tmp 18) (Rg L164_10) .skip)∧D tb c164_12=D tb (.seq (Rg L164_13) .ret):=⟨rfl,rfl,rfl,rfl,rfl,rfl,rfl⟩
def c165_0:=bodyOf Tryz.f165
theorem bd_5{args:List V}{st:St}(ha:args.length≤8):evBody tb (run tb) Tryz.f165 args st=leave tb [.tmp 2] ((run tb).code none c165_0 (mk 8 (argF args) []) st):=F_2 (c:=c165_0) (rs:= #[.tmp 2]) rfl rfl rfl ha
theorem bz_1:tb.fn 165=some Tryz.f165:=by rw[a_];exact Tryz.func165
theorem by_1:tb.mode 165= .split:=by rw[a_];rfl
def c165_2:=kid c165_0 1
def c165_3:=kid c165_2 0
def c165_5:=kid c165_3 1
def c165_6:=kid c165_5 0
def c165_10:=kid c165_2 1
noncomputable def L165_1:Lt (kid c165_0 0):= .mk _
noncomputable def L165_4:Lt (kid c165_3 0):= .mk _
noncomputable def L165_7:Lt (kid c165_6 0):= .mk _
noncomputable def L165_11:Lt (kid c165_10 0):= .mk _
theorem S165:D tb c165_0=D tb (.seq (Rg L165_1) c165_2)∧D tb c165_2=D tb (.seq c165_3 c165_10)∧D tb c165_3=D tb (.seq (Rg L165_4) c165_5)∧D tb c165_5=D tb (.cond (.tmp 4) c165_6 .skip)∧D tb c165_6=D tb (.seq (Rg L165_7) .ret)∧D tb c165_10=D tb (.seq (Rg L165_11) .ret):=⟨rfl,rfl,rfl,rfl,rfl,rfl⟩
def c166_0:=bodyOf Tryz.f166
theorem bd_8{args:List V}{st:St}(ha:args.length≤8):evBody tb (run tb) Tryz.f166 args st=leave tb [.tmp 2] ((run tb).code none c166_0 (mk 8 (argF args) []) st):=F_2 (c:=c166_0) (rs:= #[.tmp 2]) rfl rfl rfl ha
theorem bx_5:tb.fn 166=some Tryz.f166:=by rw[a_];exact Tryz.func166
theorem bw_8:tb.mode 166= .split:=by rw[a_];rfl
def c166_2:=kid c166_0 1
def c166_3:=kid c166_2 0
def c166_5:=kid c166_3 1
def c166_6:=kid c166_5 0
def c166_10:=kid c166_2 1
noncomputable def L166_1:Lt (kid c166_0 0):= .mk _
noncomputable def L166_4:Lt (kid c166_3 0):= .mk _
noncomputable def L166_7:Lt (kid c166_6 0):= .mk _
noncomputable def L166_11:Lt (kid c166_10 0):= .mk _
theorem S166:D tb c166_0=D tb (.seq (Rg L166_1) c166_2)∧D tb c166_2=D tb (.seq c166_3 c166_10)∧D tb c166_3=D tb (.seq (Rg L166_4) c166_5)∧D tb c166_5=D tb (.cond (.tmp 4) c166_6 .skip)∧D tb c166_6=D tb (.seq (Rg L166_7) .ret)∧D tb c166_10=D tb (.seq (Rg L166_11) .ret):=⟨rfl,rfl,rfl,rfl,rfl,rfl⟩
def c186_0:=bodyOf Tryz.f186
def run186{args:List V}{st:St}(ha:args.length≤19):=b_1 (T:=tb) (fid:=186) (st:=st) (by rw[a_];exact Tryz.func186) (by rw[a_];rfl) (c:=c186_0) (rs:= #[.tmp 4]) rfl rfl rfl ha
def c186_2:=kid c186_0 1
def c186_3:=kid c186_2 0
def c186_5:=kid c186_3 1
def c186_6:=kid c186_5 0
def c186_7:=kid c186_6 0
def c186_9:=kid c186_7 1
def c186_10:=kid c186_9 0
def c186_13:=kid c186_9 1
def c186_14:=kid c186_13 0
def c186_15:=kid c186_14 0
def c186_17:=kid c186_15 1
def c186_19:=kid c186_17 1
def c186_20:=kid c186_19 0
def c186_25:=kid c186_2 1
theorem p186_6:D tb c186_6 rd 19 f m st=loopK tb rd c186_6 19 f m st fun e fr st=>some (e,fr,st):=a_8
theorem e186_6:c186_6= .loop c186_7:=rfl
theorem w186_6:writes c186_7=some [9,10,5,11,12,13,14,15,16,17,4,18,8]:=by kernel_rfl
noncomputable def L186_1:Lt (kid c186_0 0):= .mk _
noncomputable def L186_4:Lt (kid c186_3 0):= .mk _
noncomputable def L186_8:Lt (kid c186_7 0):= .mk _
noncomputable def L186_16:Lt (kid c186_15 0):= .mk _
noncomputable def L186_18:Lt (kid c186_17 0):= .mk _
noncomputable def L186_21:Lt (kid c186_20 0):= .mk _
noncomputable def L186_24:Lt (kid c186_13 1):= .mk _
noncomputable def L186_26:Lt (kid c186_25 0):= .mk _
theorem S186:D tb c186_0=D tb (.seq (Rg L186_1) c186_2)∧D tb c186_2=D tb (.seq c186_3 c186_25)∧D tb c186_3=D tb (.seq (Rg L186_4) c186_5)∧D tb c186_5=D tb (.block 0 c186_6)∧D tb c186_7=D tb (.seq (Rg L186_8) c186_9)∧D tb c186_9=D tb (.seq c186_10 c186_13)∧D tb c186_10=D tb (.cond (.tmp 9) .skip (.exit 0))∧D tb c186_13=D tb (.seq c186_14 (Rg L186_24))∧D tb c186_14=D tb (.block 1 c186_15)∧D tb c186_15=D tb (.seq (Rg L186_16) c186_17)∧D tb c186_17=D tb (.seq (Rg L186_18) c186_19)∧D tb c186_19=D tb (.cond (.tmp 16) c186_20 .skip)∧D tb c186_20=D tb (.seq (Rg L186_21) .ret)∧D tb c186_25=D tb (.seq (Rg L186_26) .ret):=⟨rfl,rfl,rfl,rfl,rfl,rfl,rfl,rfl,rfl,rfl,rfl,rfl,rfl,rfl⟩
def c187_0:=bodyOf Tryz.f187
def run187{args:List V}{st:St}(ha:args.length≤9):=b_1 (T:=tb) (fid:=187) (st:=st) (by rw[a_];exact Tryz.func187) (by rw[a_];rfl) (c:=c187_0) (rs:= #[.tmp 4]) rfl rfl rfl ha
def c187_2:=kid c187_0 1
noncomputable def L187_1:Lt (kid c187_0 0):= .mk _
noncomputable def L187_3:Lt (kid c187_2 0):= .mk _
theorem S187:D tb c187_0=D tb (.seq (Rg L187_1) c187_2)∧D tb c187_2=D tb (.seq (Rg L187_3) .ret):=⟨rfl,rfl⟩
def c188_0:=bodyOf Tryz.f188
def run188{args:List V}{st:St}(ha:args.length≤8):=z_0 (T:=tb) (fid:=188) (st:=st) (by rw[a_];exact Tryz.func188) (by rw[a_];rfl) (c:=c188_0) (rs:= #[.tmp 3]) rfl rfl rfl ha
def c188_2:=kid c188_0 1
noncomputable def L188_1:Lt (kid c188_0 0):= .mk _
noncomputable def L188_3:Lt (kid c188_2 0):= .mk _
theorem S188:D tb c188_0=D tb (.seq (Rg L188_1) c188_2)∧D tb c188_2=D tb (.seq (Rg L188_3) .ret):=⟨rfl,rfl⟩
def c189_0:=bodyOf Tryz.f189
def run189{args:List V}{st:St}(ha:args.length≤29):=a_1 (T:=tb) (fid:=189) (st:=st) (by rw[a_];exact Tryz.func189) (by rw[a_];rfl) (c:=c189_0) (rs:= #[.cell 2 209, .tmp 3]) rfl rfl rfl ha
def c189_2:=kid c189_0 1
def c189_3:=kid c189_2 0
def c189_5:=kid c189_3 1
def c189_6:=kid c189_5 0
def c189_8:=kid c189_6 1
def c189_9:=kid c189_8 0
def c189_12:=kid c189_8 1
def c189_13:=kid c189_12 0
def c189_15:=kid c189_13 1
def c189_17:=kid c189_15 1
def c189_19:=kid c189_17 1
def c189_22:=kid c189_12 1
def c189_23:=kid c189_22 0
def c189_26:=kid c189_22 1
def c189_27:=kid c189_26 0
def c189_29:=kid c189_27 1
def c189_31:=kid c189_29 1
def c189_33:=kid c189_31 1
def c189_35:=kid c189_33 1
def c189_37:=kid c189_35 1
def c189_40:=kid c189_26 1
def c189_41:=kid c189_40 0
def c189_44:=kid c189_40 1
def c189_46:=kid c189_44 1
def c189_47:=kid c189_46 0
def c189_50:=kid c189_46 1
def c189_52:=kid c189_50 1
def c189_53:=kid c189_52 0
def c189_56:=kid c189_52 1
def c189_58:=kid c189_56 1
def c189_59:=kid c189_58 0
def c189_63:=kid c189_2 1
noncomputable def L189_1:Lt (kid c189_0 0):= .mk _
noncomputable def L189_4:Lt (kid c189_3 0):= .mk _
noncomputable def L189_7:Lt (kid c189_6 0):= .mk _
noncomputable def L189_10:Lt (kid c189_9 0):= .mk _
noncomputable def L189_14:Lt (kid c189_13 0):= .mk _
noncomputable def L189_18:Lt (kid c189_17 0):= .mk _
noncomputable def L189_21:Lt (kid c189_19 1):= .mk _
noncomputable def L189_24:Lt (kid c189_23 0):= .mk _
noncomputable def L189_28:Lt (kid c189_27 0):= .mk _
noncomputable def L189_32:Lt (kid c189_31 0):= .mk _
noncomputable def L189_36:Lt (kid c189_35 0):= .mk _
noncomputable def L189_39:Lt (kid c189_37 1):= .mk _
noncomputable def L189_42:Lt (kid c189_41 0):= .mk _
noncomputable def L189_45:Lt (kid c189_44 0):= .mk _
noncomputable def L189_48:Lt (kid c189_47 0):= .mk _
noncomputable def L189_51:Lt (kid c189_50 0):= .mk _
noncomputable def L189_54:Lt (kid c189_53 0):= .mk _
noncomputable def L189_57:Lt (kid c189_56 0):= .mk _
noncomputable def L189_60:Lt (kid c189_59 0):= .mk _
noncomputable def L189_64:Lt (kid c189_63 0):= .mk _
theorem S189:D tb c189_0=D tb (.seq (Rg L189_1) c189_2)∧D tb c189_2=D tb (.seq c189_3 c189_63)∧D tb c189_3=D tb (.seq (Rg L189_4) c189_5)∧D tb c189_5=D tb (.block 0 c189_6)∧D tb c189_6=D tb (.seq (Rg L189_7) c189_8)∧D tb c189_8=D tb (.cond (.tmp 5) c189_9 c189_12)∧D tb c189_9=D tb (.seq (Rg L189_10) .ret)∧D tb c189_12=D tb (.seq c189_13 c189_22)∧D tb c189_13=D tb (.seq (Rg L189_14) c189_15)∧D tb c189_15=D tb (.cond (.tmp 8) .skip c189_17)∧D tb c189_17=D tb (.seq (Rg L189_18) c189_19)∧D tb c189_19=D tb (.cond (.tmp 8) .skip (Rg L189_21))∧D tb c189_22=D tb (.cond (.tmp 8) c189_23 c189_26)∧D tb c189_23=D tb (.seq (Rg L189_24) .ret)∧D tb c189_26=D tb (.seq c189_27 c189_40)∧D tb c189_27=D tb (.seq (Rg L189_28) c189_29)∧D tb c189_29=D tb (.cond (.tmp 13) .skip c189_31)∧D tb c189_31=D tb (.seq (Rg L189_32) c189_33)∧D tb c189_33=D tb (.cond (.tmp 13) .skip c189_35)∧D tb c189_35=D tb (.seq (Rg L189_36) c189_37)∧D tb c189_37=D tb (.cond (.tmp 13) .skip (Rg L189_39))∧D tb c189_40=D tb (.cond (.tmp 13) c189_41 c189_44)∧D tb c189_41=D tb (.seq (Rg L189_42) .ret)∧D tb c189_44=D tb (.seq (Rg L189_45) c189_46)∧D tb c189_46=D tb (.cond (.tmp 19) c189_47 c189_50)∧D tb c189_47=D tb (.seq (Rg L189_48) .ret)∧D tb c189_50=D tb (.seq (Rg L189_51) c189_52)∧D tb c189_52=D tb (.cond (.tmp 22) c189_53 c189_56)∧D tb c189_53=D tb (.seq (Rg L189_54) .ret)∧D tb c189_56=D tb (.seq (Rg L189_57) c189_58)∧D tb c189_58=D tb (.cond (.tmp 25) c189_59 .skip)∧D tb c189_59=D tb (.seq (Rg L189_60) .ret)∧D tb c189_63=D tb (.seq (Rg L189_64) .ret):=⟨rfl,rfl,rfl,rfl,rfl,rfl,rfl,rfl,rfl,rfl,rfl,rfl,rfl,rfl,rfl,rfl,rfl,rfl,rfl,rfl,rfl,rfl,rfl,rfl,rfl,rfl,rfl,rfl,rfl,rfl,rfl,rfl,rfl⟩
def c190_0:=bodyOf Tryz.f190
def run190{args:List V}{st:St}(ha:args.length≤10):=a_1 (T:=tb) (fid:=190) (st:=st) (by rw[a_];exact Tryz.func190) (by rw[a_];rfl) (c:=c190_0) (rs:= #[.tmp 4]) rfl rfl rfl ha
def c190_2:=kid c190_0 1
def c190_3:=kid c190_2 0
def c190_5:=kid c190_3 1
def c190_6:=kid c190_5 0
def c190_10:=kid c190_2 1
noncomputable def L190_1:Lt (kid c190_0 0):= .mk _
noncomputable def L190_4:Lt (kid c190_3 0):= .mk _
noncomputable def L190_7:Lt (kid c190_6 0):= .mk _
noncomputable def L190_11:Lt (kid c190_10 0):= .mk _
theorem S190:D tb c190_0=D tb (.seq (Rg L190_1) c190_2)∧D tb c190_2=D tb (.seq c190_3 c190_10)∧D tb c190_3=D tb (.seq (Rg L190_4) c190_5)∧D tb c190_5=D tb (.cond (.tmp 5) c190_6 .skip)∧D tb c190_6=D tb (.seq (Rg L190_7) .ret)∧D tb c190_10=D tb (.seq (Rg L190_11) .ret):=⟨rfl,rfl,rfl,rfl,rfl,rfl⟩
def c191_0:=bodyOf Tryz.f191
def run191{args:List V}{st:St}(ha:args.length≤41):=a_1 (T:=tb) (fid:=191) (st:=st) (by rw[a_];exact Tryz.func191) (by rw[a_];rfl) (c:=c191_0) (rs:= #[.tmp 8]) rfl rfl rfl ha
def c191_2:=kid c191_0 1
def c191_4:=kid c191_2 1
def c191_5:=kid c191_4 0
def c191_7:=kid c191_5 1
def c191_10:=kid c191_4 1
noncomputable def L191_1:Lt (kid c191_0 0):= .mk _
noncomputable def L191_3:Lt (kid c191_2 0):= .mk _
noncomputable def L191_6:Lt (kid c191_5 0):= .mk _
noncomputable def L191_8:Lt (kid c191_7 0):= .mk _
noncomputable def L191_11:Lt (kid c191_10 0):= .mk _
theorem S191:D tb c191_0=D tb (.seq (Rg L191_1) c191_2)∧D tb c191_2=D tb (.seq (Rg L191_3) c191_4)∧D tb c191_4=D tb (.seq c191_5 c191_10)∧D tb c191_5=D tb (.seq (Rg L191_6) c191_7)∧D tb c191_7=D tb (.cond (.tmp 13) (Rg L191_8) .skip)∧D tb c191_10=D tb (.seq (Rg L191_11) .ret):=⟨rfl,rfl,rfl,rfl,rfl,rfl⟩
def c192_0:=bodyOf Tryz.f192
def run192{args:List V}{st:St}(ha:args.length≤21):=a_1 (T:=tb) (fid:=192) (st:=st) (by rw[a_];exact Tryz.func192) (by rw[a_];rfl) (c:=c192_0) (rs:= #[.cell 2 209, .tmp 3]) rfl rfl rfl ha
def c192_2:=kid c192_0 1
def c192_3:=kid c192_2 0
def c192_5:=kid c192_3 1
def c192_6:=kid c192_5 0
def c192_7:=kid c192_6 0
def c192_9:=kid c192_7 1
def c192_12:=kid c192_6 1
def c192_13:=kid c192_12 0
def c192_16:=kid c192_12 1
def c192_18:=kid c192_16 1
def c192_19:=kid c192_18 0
def c192_22:=kid c192_18 1
def c192_23:=kid c192_22 0
def c192_25:=kid c192_23 1
def c192_28:=kid c192_22 1
def c192_29:=kid c192_28 0
def c192_32:=kid c192_28 1
def c192_33:=kid c192_32 0
def c192_35:=kid c192_33 1
def c192_38:=kid c192_32 1
def c192_39:=kid c192_38 0
def c192_43:=kid c192_2 1
noncomputable def L192_1:Lt (kid c192_0 0):= .mk _
noncomputable def L192_4:Lt (kid c192_3 0):= .mk _
noncomputable def L192_8:Lt (kid c192_7 0):= .mk _
noncomputable def L192_11:Lt (kid c192_9 1):= .mk _
noncomputable def L192_14:Lt (kid c192_13 0):= .mk _
noncomputable def L192_17:Lt (kid c192_16 0):= .mk _
noncomputable def L192_20:Lt (kid c192_19 0):= .mk _
noncomputable def L192_24:Lt (kid c192_23 0):= .mk _
noncomputable def L192_27:Lt (kid c192_25 1):= .mk _
noncomputable def L192_30:Lt (kid c192_29 0):= .mk _
noncomputable def L192_34:Lt (kid c192_33 0):= .mk _
noncomputable def L192_37:Lt (kid c192_35 1):= .mk _
noncomputable def L192_40:Lt (kid c192_39 0):= .mk _
noncomputable def L192_44:Lt (kid c192_43 0):= .mk _
theorem S192:D tb c192_0=D tb (.seq (Rg L192_1) c192_2)∧D tb c192_2=D tb (.seq c192_3 c192_43)∧D tb c192_3=D tb (.seq (Rg L192_4) c192_5)∧D tb c192_5=D tb (.block 0 c192_6)∧D tb c192_6=D tb (.seq c192_7 c192_12)∧D tb c192_7=D tb (.seq (Rg L192_8) c192_9)∧D tb c192_9=D tb (.cond (.tmp 5) .skip (Rg L192_11))∧D tb c192_12=D tb (.cond (.tmp 5) c192_13 c192_16)∧D tb c192_13=D tb (.seq (Rg L192_14) .ret)∧D tb c192_16=D tb (.seq (Rg L192_17) c192_18)∧D tb c192_18=D tb (.cond (.tmp 9) c192_19 c192_22)∧D tb c192_19=D tb (.seq (Rg L192_20) .ret)∧D tb c192_22=D tb (.seq c192_23 c192_28)∧D tb c192_23=D tb (.seq (Rg L192_24) c192_25)∧D tb c192_25=D tb (.cond (.tmp 12) .skip (Rg L192_27))∧D tb c192_28=D tb (.cond (.tmp 12) c192_29 c192_32)∧D tb c192_29=D tb (.seq (Rg L192_30) .ret)∧D tb c192_32=D tb (.seq c192_33 c192_38)∧D tb c192_33=D tb (.seq (Rg L192_34) c192_35)∧D tb c192_35=D tb (.cond (.tmp 16) .skip (Rg L192_37))∧D tb c192_38=D tb (.cond (.tmp 16) c192_39 .skip)∧D tb c192_39=D tb (.seq (Rg L192_40) .ret)∧D tb c192_43=D tb (.seq (Rg L192_44) .ret):=⟨rfl,rfl,rfl,rfl,rfl,rfl,rfl,rfl,rfl,rfl,rfl,rfl,rfl,rfl,rfl,rfl,rfl,rfl,rfl,rfl,rfl,rfl,rfl⟩
def c193_0:=bodyOf Tryz.f193
def run193{args:List V}{st:St}(ha:args.length≤9):=a_1 (T:=tb) (fid:=193) (st:=st) (by rw[a_];exact Tryz.func193) (by rw[a_];rfl) (c:=c193_0) (rs:= #[.tmp 4]) rfl rfl rfl ha
def c193_2:=kid c193_0 1
noncomputable def L193_1:Lt (kid c193_0 0):= .mk _
noncomputable def L193_3:Lt (kid c193_2 0):= .mk _
theorem S193:D tb c193_0=D tb (.seq (Rg L193_1) c193_2)∧D tb c193_2=D tb (.seq (Rg L193_3) .ret):=⟨rfl,rfl⟩
def c194_0:=bodyOf Tryz.f194
def run194{args:List V}{st:St}(ha:args.length≤21):=a_1 (T:=tb) (fid:=194) (st:=st) (by rw[a_];exact Tryz.func194) (by rw[a_];rfl) (c:=c194_0) (rs:= #[.tmp 2]) rfl rfl rfl ha
def c194_2:=kid c194_0 1
noncomputable def L194_1:Lt (kid c194_0 0):= .mk _
noncomputable def L194_3:Lt (kid c194_2 0):= .mk _
theorem S194:D tb c194_0=D tb (.seq (Rg L194_1) c194_2)∧D tb c194_2=D tb (.seq (Rg L194_3) .ret):=⟨rfl,rfl⟩
def c195_0:=bodyOf Tryz.f195
def run195{args:List V}{st:St}(ha:args.length≤9):=a_1 (T:=tb) (fid:=195) (st:=st) (by rw[a_];exact Tryz.func195) (by rw[a_];rfl) (c:=c195_0) (rs:= #[.tmp 4]) rfl rfl rfl ha
def c195_2:=kid c195_0 1
noncomputable def L195_1:Lt (kid c195_0 0):= .mk _
noncomputable def L195_3:Lt (kid c195_2 0):= .mk _
theorem S195:D tb c195_0=D tb (.seq (Rg L195_1) c195_2)∧D tb c195_2=D tb (.seq (Rg L195_3) .ret):=⟨rfl,rfl⟩
def c214_0:=bodyOf Tryz.f214
def run214{args:List V}{st:St}(ha:args.length≤19):=b_1 (T:=tb) (fid:=214) (st:=st) (by rw[a_];exact Tryz.func214) (by rw[a_];rfl) (c:=c214_0) (rs:= #[.tmp 4]) rfl rfl rfl ha
def c214_2:=kid c214_0 1
def c214_3:=kid c214_2 0
def c214_5:=kid c214_3 1
def c214_6:=kid c214_5 0
def c214_7:=kid c214_6 0
def c214_9:=kid c214_7 1
def c214_10:=kid c214_9 0
def c214_13:=kid c214_9 1
def c214_14:=kid c214_13 0
def c214_15:=kid c214_14 0
def c214_17:=kid c214_15 1
def c214_19:=kid c214_17 1
def c214_20:=kid c214_19 0
def c214_25:=kid c214_2 1
theorem p214_6:D tb c214_6 rd 19 f m st=loopK tb rd c214_6 19 f m st fun e fr st=>some (e,fr,st):=a_8
theorem e214_6:c214_6= .loop c214_7:=rfl
theorem w214_6:writes c214_7=some [9,10,5,11,12,13,14,15,16,17,4,18,8]:=by kernel_rfl
noncomputable def L214_1:Lt (kid c214_0 0):= .mk _
noncomputable def L214_4:Lt (kid c214_3 0):= .mk _
noncomputable def L214_8:Lt (kid c214_7 0):= .mk _
noncomputable def L214_16:Lt (kid c214_15 0):= .mk _
noncomputable def L214_18:Lt (kid c214_17 0):= .mk _
noncomputable def L214_21:Lt (kid c214_20 0):= .mk _
noncomputable def L214_24:Lt (kid c214_13 1):= .mk _
noncomputable def L214_26:Lt (kid c214_25 0):= .mk _
theorem S214:D tb c214_0=D tb (.seq (Rg L214_1) c214_2)∧D tb c214_2=D tb (.seq c214_3 c214_25)∧D tb c214_3=D tb (.seq (Rg L214_4) c214_5)∧D tb c214_5=D tb (.block 0 c214_6)∧D tb c214_7=D tb (.seq (Rg L214_8) c214_9)∧D tb c214_9=D tb (.seq c214_10 c214_13)∧D tb c214_10=D tb (.cond (.tmp 9) .skip (.exit 0))∧D tb c214_13=D tb (.seq c214_14 (Rg L214_24))∧D tb c214_14=D tb (.block 1 c214_15)∧D tb c214_15=D tb (.seq (Rg L214_16) c214_17)∧D tb c214_17=D tb (.seq (Rg L214_18) c214_19)∧D tb c214_19=D tb (.cond (.tmp 16) c214_20 .skip)∧D tb c214_20=D tb (.seq (Rg L214_21) .ret)∧D tb c214_25=D tb (.seq (Rg L214_26) .ret):=⟨rfl,rfl,rfl,rfl,rfl,rfl,rfl,rfl,rfl,rfl,rfl,rfl,rfl,rfl⟩
def c215_0:=bodyOf Tryz.f215
def run215{args:List V}{st:St}(ha:args.length≤12):=a_1 (T:=tb) (fid:=215) (st:=st) (by rw[a_];exact Tryz.func215) (by rw[a_];rfl) (c:=c215_0) (rs:= #[.tmp 2]) rfl rfl rfl ha
def c215_2:=kid c215_0 1
noncomputable def L215_1:Lt (kid c215_0 0):= .mk _
noncomputable def L215_3:Lt (kid c215_2 0):= .mk _
theorem S215:D tb c215_0=D tb (.seq (Rg L215_1) c215_2)∧D tb c215_2=D tb (.seq (Rg L215_3) .ret):=⟨rfl,rfl⟩
def c216_0:=bodyOf Tryz.f216
def run216{args:List V}{st:St}(ha:args.length≤19):=a_1 (T:=tb) (fid:=216) (st:=st) (by rw[a_];exact Tryz.func216) (by rw[a_];rfl) (c:=c216_0) (rs:= #[.tmp 2]) rfl rfl rfl ha
def c216_2:=kid c216_0 1
def c216_4:=kid c216_2 1
noncomputable def L216_1:Lt (kid c216_0 0):= .mk _
noncomputable def L216_3:Lt (kid c216_2 0):= .mk _
noncomputable def L216_5:Lt (kid c216_4 0):= .mk _
theorem S216:D tb c216_0=D tb (.seq (Rg L216_1) c216_2)∧D tb c216_2=D tb (.seq (Rg L216_3) c216_4)∧D tb c216_4=D tb (.seq (Rg L216_5) .ret):=⟨rfl,rfl,rfl⟩
def c217_0:=bodyOf Tryz.f217
def run217{args:List V}{st:St}(ha:args.length≤9):=a_1 (T:=tb) (fid:=217) (st:=st) (by rw[a_];exact Tryz.func217) (by rw[a_];rfl) (c:=c217_0) (rs:= #[.tmp 4]) rfl rfl rfl ha
def c217_2:=kid c217_0 1
noncomputable def L217_1:Lt (kid c217_0 0):= .mk _
noncomputable def L217_3:Lt (kid c217_2 0):= .mk _
theorem S217:D tb c217_0=D tb (.seq (Rg L217_1) c217_2)∧D tb c217_2=D tb (.seq (Rg L217_3) .ret):=⟨rfl,rfl⟩
def c218_0:=bodyOf Tryz.f218
def run218{args:List V}{st:St}(ha:args.length≤9):=b_1 (T:=tb) (fid:=218) (st:=st) (by rw[a_];exact Tryz.func218) (by rw[a_];rfl) (c:=c218_0) (rs:= #[.tmp 4]) rfl rfl rfl ha
def c218_2:=kid c218_0 1
noncomputable def L218_1:Lt (kid c218_0 0):= .mk _
noncomputable def L218_3:Lt (kid c218_2 0):= .mk _
theorem S218:D tb c218_0=D tb (.seq (Rg L218_1) c218_2)∧D tb c218_2=D tb (.seq (Rg L218_3) .ret):=⟨rfl,rfl⟩
def c219_0:=bodyOf Tryz.f219
def run219{args:List V}{st:St}(ha:args.length≤8):=z_0 (T:=tb) (fid:=219) (st:=st) (by rw[a_];exact Tryz.func219) (by rw[a_];rfl) (c:=c219_0) (rs:= #[.tmp 3]) rfl rfl rfl ha
def c219_2:=kid c219_0 1
noncomputable def L219_1:Lt (kid c219_0 0):= .mk _
noncomputable def L219_3:Lt (kid c219_2 0):= .mk _
theorem S219:D tb c219_0=D tb (.seq (Rg L219_1) c219_2)∧D tb c219_2=D tb (.seq (Rg L219_3) .ret):=⟨rfl,rfl⟩
def c220_0:=bodyOf Tryz.f220
def run220{args:List V}{st:St}(ha:args.length≤9):=b_1 (T:=tb) (fid:=220) (st:=st) (by rw[a_];exact Tryz.func220) (by rw[a_];rfl) (c:=c220_0) (rs:= #[.tmp 4]) rfl rfl rfl ha
def c220_2:=kid c220_0 1
noncomputable def L220_1:Lt (kid c220_0 0):= .mk _
noncomputable def L220_3:Lt (kid c220_2 0):= .mk _
theorem S220:D tb c220_0=D tb (.seq (Rg L220_1) c220_2)∧D tb c220_2=D tb (.seq (Rg L220_3) .ret):=⟨rfl,rfl⟩
def c221_0:=bodyOf Tryz.f221
def run221{args:List V}{st:St}(ha:args.length≤8):=z_0 (T:=tb) (fid:=221) (st:=st) (by rw[a_];exact Tryz.func221) (by rw[a_];rfl) (c:=c221_0) (rs:= #[.tmp 3]) rfl rfl rfl ha
def c221_2:=kid c221_0 1
noncomputable def L221_1:Lt (kid c221_0 0):= .mk _
noncomputable def L221_3:Lt (kid c221_2 0):= .mk _
theorem S221:D tb c221_0=D tb (.seq (Rg L221_1) c221_2)∧D tb c221_2=D tb (.seq (Rg L221_3) .ret):=⟨rfl,rfl⟩
def c232_0:=bodyOf Tryz.f232
def run232{args:List V}{st:St}(ha:args.length≤9):=a_1 (T:=tb) (fid:=232) (st:=st) (by rw[a_];exact Tryz.func232) (by rw[a_];rfl) (c:=c232_0) (rs:= #[.tmp 2]) rfl rfl rfl ha
def c232_2:=kid c232_0 1
noncomputable def L232_1:Lt (kid c232_0 0):= .mk _
noncomputable def L232_3:Lt (kid c232_2 0):= .mk _
theorem S232:D tb c232_0=D tb (.seq (Rg L232_1) c232_2)∧D tb c232_2=D tb (.seq (Rg L232_3) .ret):=⟨rfl,rfl⟩
def c233_0:=bodyOf Tryz.f233
def run233{args:List V}{st:St}(ha:args.length≤9):=b_1 (T:=tb) (fid:=233) (st:=st) (by rw[a_];exact Tryz.func233) (by rw[a_];rfl) (c:=c233_0) (rs:= #[.tmp 4]) rfl rfl rfl ha
def c233_2:=kid c233_0 1
noncomputable def L233_1:Lt (kid c233_0 0):= .mk _
noncomputable def L233_3:Lt (kid c233_2 0):= .mk _
theorem S233:D tb c233_0=D tb (.seq (Rg L233_1) c233_2)∧D tb c233_2=D tb (.seq (Rg L233_3) .ret):=⟨rfl,rfl⟩
def c234_0:=bodyOf Tryz.f234
def run234{args:List V}{st:St}(ha:args.length≤8):=z_0 (T:=tb) (fid:=234) (st:=st) (by rw[a_];exact Tryz.func234) (by rw[a_];rfl) (c:=c234_0) (rs:= #[.tmp 3]) rfl rfl rfl ha
def c234_2:=kid c234_0 1
noncomputable def L234_1:Lt (kid c234_0 0):= .mk _
noncomputable def L234_3:Lt (kid c234_2 0):= .mk _
theorem S234:D tb c234_0=D tb (.seq (Rg L234_1) c234_2)∧D tb c234_2=D tb (.seq (Rg L234_3) .ret):=⟨rfl,rfl⟩
def c235_0:=bodyOf Tryz.f235
def run235{args:List V}{st:St}(ha:args.length≤19):=b_1 (T:=tb) (fid:=235) (st:=st) (by rw[a_];exact Tryz.func235) (by rw[a_];rfl) (c:=c235_0) (rs:= #[.tmp 4]) rfl rfl rfl ha
def c235_2:=kid c235_0 1
def c235_3:=kid c235_2 0
def c235_5:=kid c235_3 1
def c235_6:=kid c235_5 0
def c235_7:=kid c235_6 0
def c235_9:=kid c235_7 1
def c235_10:=kid c235_9 0
def c235_13:=kid c235_9 1
def c235_14:=kid c235_13 0
def c235_15:=kid c235_14 0
def c235_17:=kid c235_15 1
def c235_19:=kid c235_17 1
def c235_20:=kid c235_19 0
def c235_25:=kid c235_2 1
theorem p235_6:D tb c235_6 rd 19 f m st=loopK tb rd c235_6 19 f m st fun e fr st=>some (e,fr,st):=a_8
theorem e235_6:c235_6= .loop c235_7:=rfl
theorem w235_6:writes c235_7=some [9,10,5,11,12,13,14,15,16,17,4,18,8]:=by kernel_rfl
noncomputable def L235_1:Lt (kid c235_0 0):= .mk _
noncomputable def L235_4:Lt (kid c235_3 0):= .mk _
noncomputable def L235_8:Lt (kid c235_7 0):= .mk _
noncomputable def L235_16:Lt (kid c235_15 0):= .mk _
noncomputable def L235_18:Lt (kid c235_17 0):= .mk _
noncomputable def L235_21:Lt (kid c235_20 0):= .mk _
noncomputable def L235_24:Lt (kid c235_13 1):= .mk _
noncomputable def L235_26:Lt (kid c235_25 0):= .mk _
theorem S235:D tb c235_0=D tb (.seq (Rg L235_1) c235_2)∧D tb c235_2=D tb (.seq c235_3 c235_25)∧D tb c235_3=D tb (.seq (Rg L235_4) c235_5)∧D tb c235_5=D tb (.block 0 c235_6)∧D tb c235_7=D tb (.seq (Rg L235_8) c235_9)∧D tb c235_9=D tb (.seq c235_10 c235_13)∧D tb c235_10=D tb (.cond (.tmp 9) .skip (.exit 0))∧D tb c235_13=D tb (.seq c235_14 (Rg L235_24))∧D tb c235_14=D tb (.block 1 c235_15)∧D tb c235_15=D tb (.seq (Rg L235_16) c235_17)∧D tb c235_17=D tb (.seq (Rg L235_18) c235_19)∧D tb c235_19=D tb (.cond (.tmp 16) c235_20 .skip)∧D tb c235_20=D tb (.seq (Rg L235_21) .ret)∧D tb c235_25=D tb (.seq (Rg L235_26) .ret):=⟨rfl,rfl,rfl,rfl,rfl,rfl,rfl,rfl,rfl,rfl,rfl,rfl,rfl,rfl⟩
def c236_0:=bodyOf Tryz.f236
def run236{args:List V}{st:St}(ha:args.length≤19):=b_1 (T:=tb) (fid:=236) (st:=st) (by rw[a_];exact Tryz.func236) (by rw[a_];rfl) (c:=c236_0) (rs:= #[.tmp 4]) rfl rfl rfl ha
def c236_2:=kid c236_0 1
def c236_3:=kid c236_2 0
def c236_5:=kid c236_3 1
def c236_6:=kid c236_5 0
def c236_7:=kid c236_6 0
def c236_9:=kid c236_7 1
def c236_10:=kid c236_9 0
def c236_13:=kid c236_9 1
def c236_14:=kid c236_13 0
def c236_15:=kid c236_14 0
def c236_17:=kid c236_15 1
def c236_19:=kid c236_17 1
def c236_20:=kid c236_19 0
def c236_25:=kid c236_2 1
theorem p236_6:D tb c236_6 rd 19 f m st=loopK tb rd c236_6 19 f m st fun e fr st=>some (e,fr,st):=a_8
theorem e236_6:c236_6= .loop c236_7:=rfl
theorem w236_6:writes c236_7=some [9,10,5,11,12,13,14,15,16,17,4,18,8]:=by kernel_rfl
noncomputable def L236_1:Lt (kid c236_0 0):= .mk _
noncomputable def L236_4:Lt (kid c236_3 0):= .mk _
noncomputable def L236_8:Lt (kid c236_7 0):= .mk _
noncomputable def L236_16:Lt (kid c236_15 0):= .mk _
noncomputable def L236_18:Lt (kid c236_17 0):= .mk _
noncomputable def L236_21:Lt (kid c236_20 0):= .mk _
noncomputable def L236_24:Lt (kid c236_13 1):= .mk _
noncomputable def L236_26:Lt (kid c236_25 0):= .mk _
theorem S236:D tb c236_0=D tb (.seq (Rg L236_1) c236_2)∧D tb c236_2=D tb (.seq c236_3 c236_25)∧D tb c236_3=D tb (.seq (Rg L236_4) c236_5)∧D tb c236_5=D tb (.block 0 c236_6)∧D tb c236_7=D tb (.seq (Rg L236_8) c236_9)∧D tb c236_9=D tb (.seq c236_10 c236_13)∧D tb c236_10=D tb (.cond (.tmp 9) .skip (.exit 0))∧D tb c236_13=D tb (.seq c236_14 (Rg L236_24))∧D tb c236_14=D tb (.block 1 c236_15)∧D tb c236_15=D tb (.seq (Rg L236_16) c236_17)∧D tb c236_17=D tb (.seq (Rg L236_18) c236_19)∧D tb c236_19=D tb (.cond (.tmp 16) c236_20 .skip)∧D tb c236_20=D tb (.seq (Rg L236_21) .ret)∧D tb c236_25=D tb (.seq (Rg L236_26) .ret):=⟨rfl,rfl,rfl,rfl,rfl,rfl,rfl,rfl,rfl,rfl,rfl,rfl,rfl,rfl⟩
def c240_0:=bodyOf Tryz.f240
def run240{args:List V}{st:St}(ha:args.length≤19):=b_1 (T:=tb) (fid:=240) (st:=st) (by rw[a_];exact Tryz.func240) (by rw[a_];rfl) (c:=c240_0) (rs:= #[.tmp 4]) rfl rfl rfl ha
def c240_2:=kid c240_0 1
def c240_3:=kid c240_2 0
def c240_5:=kid c240_3 1
def c240_6:=kid c240_5 0
def c240_7:=kid c240_6 0
def c240_9:=kid c240_7 1
def c240_10:=kid c240_9 0
def c240_13:=kid c240_9 1
def c240_14:=kid c240_13 0
def c240_15:=kid c240_14 0
def c240_17:=kid c240_15 1
def c240_19:=kid c240_17 1
def c240_20:=kid c240_19 0
def c240_25:=kid c240_2 1
theorem p240_6:D tb c240_6 rd 19 f m st=loopK tb rd c240_6 19 f m st fun e fr st=>some (e,fr,st):=a_8
theorem e240_6:c240_6= .loop c240_7:=rfl
theorem w240_6:writes c240_7=some [9,10,5,11,12,13,14,15,16,17,4,18,8]:=by kernel_rfl
noncomputable def L240_1:Lt (kid c240_0 0):= .mk _
noncomputable def L240_4:Lt (kid c240_3 0):= .mk _
noncomputable def L240_8:Lt (kid c240_7 0):= .mk _
noncomputable def L240_16:Lt (kid c240_15 0):= .mk _
noncomputable def L240_18:Lt (kid c240_17 0):= .mk _
noncomputable def L240_21:Lt (kid c240_20 0):= .mk _
noncomputable def L240_24:Lt (kid c240_13 1):= .mk _
noncomputable def L240_26:Lt (kid c240_25 0):= .mk _
theorem S240:D tb c240_0=D tb (.seq (Rg L240_1) c240_2)∧D tb c240_2=D tb (.seq c240_3 c240_25)∧D tb c240_3=D tb (.seq (Rg L240_4) c240_5)∧D tb c240_5=D tb (.block 0 c240_6)∧D tb c240_7=D tb (.seq (Rg L240_8) c240_9)∧D tb c240_9=D tb (.seq c240_10 c240_13)∧D tb c240_10=D tb (.cond (.tmp 9) .skip (.exit 0))∧D tb c240_13=D tb (.seq c240_14 (Rg L240_24))∧D tb c240_14=D tb (.block 1 c240_15)∧D tb c240_15=D tb (.seq (Rg L240_16) c240_17)∧D tb c240_17=D tb (.seq (Rg L240_18) c240_19)∧D tb c240_19=D tb (.cond (.tmp 16) c240_20 .skip)∧D tb c240_20=D tb (.seq (Rg L240_21) .ret)∧D tb c240_25=D tb (.seq (Rg L240_26) .ret):=⟨rfl,rfl,rfl,rfl,rfl,rfl,rfl,rfl,rfl,rfl,rfl,rfl,rfl,rfl⟩
end
end Go.Proofs.YtghhphdkojjalaaGreatDoor
namespace Go.Proofs.YtghhphdkojjalaaGreatDoor
noncomputable section
open Go.Abs
set_option maxRecDepth 1000000
set_option linter.unusedSimpArgs false
variable {rd:Option Nat} {f:Nat→V} {m:List Nat} {st:St}
def c5_0:=bodyOf Tryz.f5
def c5_2:=kid c5_0 1
def c5_10:=kid c5_2 1
def c5_18:=kid c5_10 1
def c5_20:=kid c5_18 1
def c5_21:=kid c5_20 0
def c5_23:=kid c5_21 1
def c5_24:=kid c5_23 0
def c5_25:=kid c5_24 0
def c5_35:=kid c5_20 1
def c5_36:=kid c5_35 0
def c5_38:=kid c5_36 1
def c5_39:=kid c5_38 0
def c5_40:=kid c5_39 0
theorem e5_24:c5_24= .loop c5_25:=rfl
theorem e5_39:c5_39= .loop c5_40:=rfl
def c6_0:=bodyOf Tryz.f6
def c6_2:=kid c6_0 1
def c6_10:=kid c6_2 1
def c6_18:=kid c6_10 1
def c6_20:=kid c6_18 1
def c6_28:=kid c6_20 1
def c6_29:=kid c6_28 0
def c6_31:=kid c6_29 1
def c6_32:=kid c6_31 0
def c6_33:=kid c6_32 0
def c6_39:=kid c6_33 1
def c6_40:=kid c6_39 0
def c6_41:=kid c6_40 0
def c6_43:=kid c6_41 1
def c6_45:=kid c6_43 1
def c6_47:=kid c6_45 1
def c6_48:=kid c6_47 0
def c6_50:=kid c6_48 1
def c6_51:=kid c6_50 0
def c6_52:=kid c6_51 0
def c6_84:=kid c6_28 1
def c6_85:=kid c6_84 0
def c6_87:=kid c6_85 1
def c6_88:=kid c6_87 0
def c6_89:=kid c6_88 0
def c6_95:=kid c6_89 1
def c6_96:=kid c6_95 0
def c6_97:=kid c6_96 0
def c6_99:=kid c6_97 1
def c6_101:=kid c6_99 1
def c6_103:=kid c6_101 1
def c6_104:=kid c6_103 0
def c6_106:=kid c6_104 1
def c6_107:=kid c6_106 0
def c6_108:=kid c6_107 0
theorem e6_32:c6_32= .loop c6_33:=rfl
theorem e6_51:c6_51= .loop c6_52:=rfl
theorem e6_88:c6_88= .loop c6_89:=rfl
theorem e6_107:c6_107= .loop c6_108:=rfl
def c11_0:=bodyOf Tryz.f11
def run11{args:List V}{st:St}(ha:args.length≤66):=b_1 (T:=tb) (fid:=11) (st:=st) (by rw[a_];exact Tryz.func11) (by rw[a_];rfl) (c:=c11_0) (rs:= #[.tmp 2, .tmp 3]) rfl rfl rfl ha
def c11_2:=kid c11_0 1
def c11_3:=kid c11_2 0
def c11_5:=kid c11_3 1
def c11_6:=kid c11_5 0
def c11_10:=kid c11_2 1
def c11_12:=kid c11_10 1
def c11_14:=kid c11_12 1
def c11_15:=kid c11_14 0
def c11_17:=kid c11_15 1
def c11_18:=kid c11_17 0
noncomputable def o11_19:=opsOf (kid c11_18 0)
def c11_20:=kid c11_18 1
noncomputable def o11_21:=opsOf (kid c11_20 0)
def c11_22:=kid c11_14 1
def c11_24:=kid c11_22 1
def c11_25:=kid c11_24 0
def c11_27:=kid c11_25 1
def c11_28:=kid c11_27 0
def c11_30:=kid c11_28 1
def c11_31:=kid c11_30 0
def c11_32:=kid c11_31 0
def c11_34:=kid c11_32 1
def c11_35:=kid c11_34 0
def c11_38:=kid c11_34 1
def c11_39:=kid c11_38 0
def c11_40:=kid c11_39 0
def c11_42:=kid c11_40 1
def c11_44:=kid c11_42 1
def c11_49:=kid c11_24 1
def c11_50:=kid c11_49 0
def c11_52:=kid c11_50 1
def c11_53:=kid c11_52 0
def c11_57:=kid c11_49 1
noncomputable def l11_21:{l:List DStep//drawAt o11_21 [(0,0),(1,1),(2,3),(3,7),(4,0),(5,16),(6,48),(7,112),(8,0),(9,511)]=l}:=by refine⟨?_,?h⟩;case h=>simp only[drawAt,entsAt,o11_21,c11_20,c11_18,c11_17,c11_15,c11_14,c11_12,c11_10,c11_2,c11_0,opsOf,kid,bodyOf,Tryz.f11,Option.getD_some,List.map,stepOf,Option.map,List.getElem?_toArray,List.getElem?_cons_succ,List.getElem?_cons_zero,Option.bind_some];rfl
theorem q11_21:D tb (.region 7 o11_21 true) rd 66 f m st=regB (evDraws tb (run tb) l11_21.1 [] (mk 66 f m) st):=o_8 [(0,0),(1,1),(2,3),(3,7),(4,0),(5,16),(6,48),(7,112),(8,0),(9,511)] (by kernel_rfl) l11_21.2
theorem p11_31:D tb c11_31 rd 66 f m st=loopK tb rd c11_31 66 f m st fun e fr st=>some (e,fr,st):=a_8
theorem e11_31:c11_31= .loop c11_32:=rfl
theorem w11_31:writes c11_32=some [45,46,47,10,48,49,50,51,52,53,54,55,56,57,58,59,8,60,44]:=by kernel_rfl
noncomputable def L11_1:Lt (kid c11_0 0):= .mk _
noncomputable def L11_4:Lt (kid c11_3 0):= .mk _
noncomputable def L11_7:Lt (kid c11_6 0):= .mk _
noncomputable def L11_11:Lt (kid c11_10 0):= .mk _
noncomputable def L11_13:Lt (kid c11_12 0):= .mk _
noncomputable def L11_16:Lt (kid c11_15 0):= .mk _
noncomputable def L11_19:Lt (kid c11_18 0):= .mk _
theorem M11_19:lightOf o11_19=L11_19.p:=Option.some.inj L11_19.h
noncomputable def L11_23:Lt (kid c11_22 0):= .mk _
noncomputable def L11_26:Lt (kid c11_25 0):= .mk _
noncomputable def L11_29:Lt (kid c11_28 0):= .mk _
noncomputable def L11_33:Lt (kid c11_32 0):= .mk _
noncomputable def L11_41:Lt (kid c11_40 0):= .mk _
noncomputable def L11_43:Lt (kid c11_42 0):= .mk _
noncomputable def L11_45:Lt (kid c11_44 0):= .mk _
noncomputable def L11_47:Lt (kid c11_38 1):= .mk _
noncomputable def L11_51:Lt (kid c11_50 0):= .mk _
noncomputable def L11_54:Lt (kid c11_53 0):= .mk _
noncomputable def L11_58:Lt (kid c11_57 0):= .mk _
theorem S11:D tb c11_0=D tb (.seq (Rg L11_1) c11_2)∧D tb c11_2=D tb (.seq c11_3 c11_10)∧D tb c11_3=D tb (.seq (Rg L11_4) c11_5)∧D tb c11_5=D tb (.cond (.tmp 13) c11_6 .skip)∧D tb c11_6=D tb (.seq (Rg L11_7) .ret)∧D tb c11_10=D tb (.seq (Rg L11_11) c11_12)∧D tb c11_12=D tb (.seq (Rg L11_13) c11_14)∧D tb c11_14=D tb (.seq c11_15 c11_22)∧D tb c11_15=D tb (.seq (Rg L11_16) c11_17)∧D tb c11_17=D tb (.block 0 c11_18)∧D tb c11_18=D tb (.rangeFunc (.tmp 24) #[25,26] (.region 6 o11_19 false) c11_20)∧D tb c11_20=D tb (.block 1 (.region 7 o11_21 true))∧D tb c11_22=D tb (.seq (Rg L11_23) c11_24)∧D tb c11_24=D tb (.seq c11_25 c11_49)∧D tb c11_25=D tb (.seq (Rg L11_26) c11_27)∧D tb c11_27=D tb (.cond (.tmp 41) c11_28 .skip)∧D tb c11_28=D tb (.seq (Rg L11_29) c11_30)∧D tb c11_30=D tb (.block 2 c11_31)∧D tb c11_32=D tb (.seq (Rg L11_33) c11_34)∧D tb c11_34=D tb (.seq c11_35 c11_38)∧D tb c11_35=D tb (.cond (.tmp 45) .skip (.exit 2))∧D tb c11_38=D tb (.seq c11_39 (Rg L11_47))∧D tb c11_39=D tb (.block 3 c11_40)∧D tb c11_40=D tb (.seq (Rg L11_41) c11_42)∧D tb c11_42=D tb (.seq (Rg L11_43) c11_44)∧D tb c11_44=D tb (.cond (.tmp 51) (Rg L11_45) .skip)∧D tb c11_49=D tb (.seq c11_50 c11_57)∧D tb c11_50=D tb (.seq (Rg L11_51) c11_52)∧D tb c11_52=D tb (.cond (.tmp 63) c11_53 .skip)∧D tb c11_53=D tb (.seq (Rg L11_54) .ret)∧D tb c11_57=D tb (.seq (Rg L11_58) .ret):=⟨rfl,rfl,rfl,rfl,rfl,rfl,rfl,rfl,rfl,rfl,rfl,rfl,rfl,rfl,rfl,rfl,rfl,rfl,rfl,rfl,rfl,rfl,rfl,rfl,rfl,rfl,rfl,rfl,rfl,rfl,rfl⟩
def c12_0:=bodyOf Tryz.f12
def c12_2:=kid c12_0 1
def c12_10:=kid c12_2 1
def c12_12:=kid c12_10 1
def c12_14:=kid c12_12 1
def c12_16:=kid c12_14 1
def c12_18:=kid c12_16 1
def c12_19:=kid c12_18 0
def c12_21:=kid c12_19 1
def c12_22:=kid c12_21 0
def c12_23:=kid c12_22 0
def c12_37:=kid c12_18 1
def c12_38:=kid c12_37 0
def c12_40:=kid c12_38 1
def c12_41:=kid c12_40 0
def c12_42:=kid c12_41 0
def c12_56:=kid c12_37 1
def c12_57:=kid c12_56 0
def c12_59:=kid c12_57 1
def c12_60:=kid c12_59 0
def c12_61:=kid c12_60 0
def c12_77:=kid c12_56 1
def c12_85:=kid c12_77 1
def c12_86:=kid c12_85 0
def c12_88:=kid c12_86 1
def c12_89:=kid c12_88 0
def c12_90:=kid c12_89 0
theorem e12_22:c12_22= .loop c12_23:=rfl
theorem e12_41:c12_41= .loop c12_42:=rfl
theorem e12_60:c12_60= .loop c12_61:=rfl
theorem e12_89:c12_89= .loop c12_90:=rfl
def c13_0:=bodyOf Tryz.f13
def c13_2:=kid c13_0 1
def c13_10:=kid c13_2 1
def c13_11:=kid c13_10 0
def c13_13:=kid c13_11 1
def c13_14:=kid c13_13 0
def c13_15:=kid c13_14 0
theorem e13_14:c13_14= .loop c13_15:=rfl
def c14_0:=bodyOf Tryz.f14
def c14_2:=kid c14_0 1
def c14_3:=kid c14_2 0
def c14_5:=kid c14_3 1
def c14_6:=kid c14_5 0
def c14_7:=kid c14_6 0
theorem e14_6:c14_6= .loop c14_7:=rfl
def c15_0:=bodyOf Tryz.f15
def run15{args:List V}{st:St}(ha:args.length≤26):=b_1 (T:=tb) (fid:=15) (st:=st) (by rw[a_];exact Tryz.func15) (by rw[a_];rfl) (c:=c15_0) (rs:= #[.tmp 4]) rfl rfl rfl ha
def c15_2:=kid c15_0 1
def c15_4:=kid c15_2 1
noncomputable def L15_1:Lt (kid c15_0 0):= .mk _
noncomputable def L15_3:Lt (kid c15_2 0):= .mk _
noncomputable def L15_5:Lt (kid c15_4 0):= .mk _
theorem S15:D tb c15_0=D tb (.seq (Rg L15_1) c15_2)∧D tb c15_2=D tb (.seq (Rg L15_3) c15_4)∧D tb c15_4=D tb (.seq (Rg L15_5) .ret):=⟨rfl,rfl,rfl⟩
def c17_0:=bodyOf Tryz.f17
def run17{args:List V}{st:St}(ha:args.length≤23):=b_1 (T:=tb) (fid:=17) (st:=st) (by rw[a_];exact Tryz.func17) (by rw[a_];rfl) (c:=c17_0) (rs:= #[.tmp 4]) rfl rfl rfl ha
def c17_2:=kid c17_0 1
def c17_3:=kid c17_2 0
def c17_4:=kid c17_3 0
def c17_6:=kid c17_4 1
def c17_7:=kid c17_6 0
def c17_10:=kid c17_6 1
def c17_12:=kid c17_10 1
def c17_13:=kid c17_12 0
def c17_17:=kid c17_2 1
noncomputable def L17_1:Lt (kid c17_0 0):= .mk _
noncomputable def L17_5:Lt (kid c17_4 0):= .mk _
noncomputable def L17_8:Lt (kid c17_7 0):= .mk _
noncomputable def L17_11:Lt (kid c17_10 0):= .mk _
noncomputable def L17_14:Lt (kid c17_13 0):= .mk _
noncomputable def L17_18:Lt (kid c17_17 0):= .mk _
theorem S17:D tb c17_0=D tb (.seq (Rg L17_1) c17_2)∧D tb c17_2=D tb (.seq c17_3 c17_17)∧D tb c17_3=D tb (.block 0 c17_4)∧D tb c17_4=D tb (.seq (Rg L17_5) c17_6)∧D tb c17_6=D tb (.cond (.tmp 5) c17_7 c17_10)∧D tb c17_7=D tb (.seq (Rg L17_8) .ret)∧D tb c17_10=D tb (.seq (Rg L17_11) c17_12)∧D tb c17_12=D tb (.cond (.tmp 10) c17_13 .skip)∧D tb c17_13=D tb (.seq (Rg L17_14) .ret)∧D tb c17_17=D tb (.seq (Rg L17_18) .ret):=⟨rfl,rfl,rfl,rfl,rfl,rfl,rfl,rfl,rfl,rfl⟩
def c19_0:=bodyOf Tryz.f19
def run19{args:List V}{st:St}(ha:args.length≤28):=b_1 (T:=tb) (fid:=19) (st:=st) (by rw[a_];exact Tryz.func19) (by rw[a_];rfl) (c:=c19_0) (rs:= #[.tmp 4]) rfl rfl rfl ha
def c19_2:=kid c19_0 1
def c19_3:=kid c19_2 0
def c19_5:=kid c19_3 1
def c19_6:=kid c19_5 0
def c19_8:=kid c19_6 1
def c19_9:=kid c19_8 0
def c19_12:=kid c19_8 1
def c19_14:=kid c19_12 1
def c19_15:=kid c19_14 0
def c19_19:=kid c19_2 1
noncomputable def L19_1:Lt (kid c19_0 0):= .mk _
noncomputable def L19_4:Lt (kid c19_3 0):= .mk _
noncomputable def L19_7:Lt (kid c19_6 0):= .mk _
noncomputable def L19_10:Lt (kid c19_9 0):= .mk _
noncomputable def L19_13:Lt (kid c19_12 0):= .mk _
noncomputable def L19_16:Lt (kid c19_15 0):= .mk _
noncomputable def L19_20:Lt (kid c19_19 0):= .mk _
theorem S19:D tb c19_0=D tb (.seq (Rg L19_1) c19_2)∧D tb c19_2=D tb (.seq c19_3 c19_19)∧D tb c19_3=D tb (.seq (Rg L19_4) c19_5)∧D tb c19_5=D tb (.block 0 c19_6)∧D tb c19_6=D tb (.seq (Rg L19_7) c19_8)∧D tb c19_8=D tb (.cond (.tmp 7) c19_9 c19_12)∧D tb c19_9=D tb (.seq (Rg L19_10) .ret)∧D tb c19_12=D tb (.seq (Rg L19_13) c19_14)∧D tb c19_14=D tb (.cond (.tmp 12) c19_15 .skip)∧D tb c19_15=D tb (.seq (Rg L19_16) .ret)∧D tb c19_19=D tb (.seq (Rg L19_20) .ret):=⟨rfl,rfl,rfl,rfl,rfl,rfl,rfl,rfl,rfl,rfl,rfl⟩
def c20_0:=bodyOf Tryz.f20
def c20_2:=kid c20_0 1
def c20_10:=kid c20_2 1
def c20_12:=kid c20_10 1
def c20_14:=kid c20_12 1
def c20_15:=kid c20_14 0
def c20_16:=kid c20_15 0
def c20_17:=kid c20_16 0
theorem e20_16:c20_16= .loop c20_17:=rfl
def c21_0:=bodyOf Tryz.f21
def run21{args:List V}{st:St}(ha:args.length≤19):=b_1 (T:=tb) (fid:=21) (st:=st) (by rw[a_];exact Tryz.func21) (by rw[a_];rfl) (c:=c21_0) (rs:= #[.tmp 4]) rfl rfl rfl ha
def c21_2:=kid c21_0 1
def c21_4:=kid c21_2 1
noncomputable def L21_1:Lt (kid c21_0 0):= .mk _
noncomputable def L21_3:Lt (kid c21_2 0):= .mk _
noncomputable def L21_5:Lt (kid c21_4 0):= .mk _
theorem S21:D tb c21_0=D tb (.seq (Rg L21_1) c21_2)∧D tb c21_2=D tb (.seq (Rg L21_3) c21_4)∧D tb c21_4=D tb (.seq (Rg L21_5) .ret):=⟨rfl,rfl,rfl⟩
def c23_0:=bodyOf Tryz.f23
def run23{args:List V}{st:St}(ha:args.length≤18):=z_0 (T:=tb) (fid:=23) (st:=st) (by rw[a_];exact Tryz.func23) (by rw[a_];rfl) (c:=c23_0) (rs:= #[.tmp 4]) rfl rfl rfl ha
def c23_2:=kid c23_0 1
def c23_4:=kid c23_2 1
noncomputable def L23_1:Lt (kid c23_0 0):= .mk _
noncomputable def L23_3:Lt (kid c23_2 0):= .mk _
noncomputable def L23_5:Lt (kid c23_4 0):= .mk _
theorem S23:D tb c23_0=D tb (.seq (Rg L23_1) c23_2)∧D tb c23_2=D tb (.seq (Rg L23_3) c23_4)∧D tb c23_4=D tb (.seq (Rg L23_5) .ret):=⟨rfl,rfl,rfl⟩
def c24_0:=bodyOf Tryz.f24
def run24{args:List V}{st:St}(ha:args.length≤50):=z_0 (T:=tb) (fid:=24) (st:=st) (by rw[a_];exact Tryz.func24) (by rw[a_];rfl) (c:=c24_0) (rs:= #[.tmp 6, .tmp 7, .tmp 8]) rfl rfl rfl ha
def c24_2:=kid c24_0 1
def c24_4:=kid c24_2 1
def c24_5:=kid c24_4 0
def c24_7:=kid c24_5 1
def c24_8:=kid c24_7 0
def c24_12:=kid c24_4 1
def c24_14:=kid c24_12 1
def c24_15:=kid c24_14 0
def c24_17:=kid c24_15 1
def c24_18:=kid c24_17 0
def c24_19:=kid c24_18 0
def c24_21:=kid c24_19 1
def c24_22:=kid c24_21 0
def c24_25:=kid c24_21 1
def c24_26:=kid c24_25 0
def c24_27:=kid c24_26 0
def c24_31:=kid c24_14 1
theorem p24_18:D tb c24_18 rd 50 f m st=loopK tb rd c24_18 50 f m st fun e fr st=>some (e,fr,st):=a_8
theorem e24_18:c24_18= .loop c24_19:=rfl
theorem w24_18:writes c24_19=some [31,32,33,13,34,35,36,37,38,39,11,40,30]:=by kernel_rfl
noncomputable def L24_1:Lt (kid c24_0 0):= .mk _
noncomputable def L24_3:Lt (kid c24_2 0):= .mk _
noncomputable def L24_6:Lt (kid c24_5 0):= .mk _
noncomputable def L24_9:Lt (kid c24_8 0):= .mk _
noncomputable def L24_13:Lt (kid c24_12 0):= .mk _
noncomputable def L24_16:Lt (kid c24_15 0):= .mk _
noncomputable def L24_20:Lt (kid c24_19 0):= .mk _
noncomputable def L24_28:Lt (kid c24_27 0):= .mk _
noncomputable def L24_29:Lt (kid c24_27 1):= .mk _
noncomputable def L24_30:Lt (kid c24_25 1):= .mk _
noncomputable def L24_32:Lt (kid c24_31 0):= .mk _
theorem S24:D tb c24_0=D tb (.seq (Rg L24_1) c24_2)∧D tb c24_2=D tb (.seq (Rg L24_3) c24_4)∧D tb c24_4=D tb (.seq c24_5 c24_12)∧D tb c24_5=D tb (.seq (Rg L24_6) c24_7)∧D tb c24_7=D tb (.cond (.tmp 22) c24_8 .skip)∧D tb c24_8=D tb (.seq (Rg L24_9) .ret)∧D tb c24_12=D tb (.seq (Rg L24_13) c24_14)∧D tb c24_14=D tb (.seq c24_15 c24_31)∧D tb c24_15=D tb (.seq (Rg L24_16) c24_17)∧D tb c24_17=D tb (.block 0 c24_18)∧D tb c24_19=D tb (.seq (Rg L24_20) c24_21)∧D tb c24_21=D tb (.seq c24_22 c24_25)∧D tb c24_22=D tb (.cond (.tmp 31) .skip (.exit 0))∧D tb c24_25=D tb (.seq c24_26 (Rg L24_30))∧D tb c24_26=D tb (.block 1 c24_27)∧D tb c24_27=D tb (.seq (Rg L24_28) (Rg L24_29))∧D tb c24_31=D tb (.seq (Rg L24_32) .ret):=⟨rfl,rfl,rfl,rfl,rfl,rfl,rfl,rfl,rfl,rfl,rfl,rfl,rfl,rfl,rfl,rfl,rfl⟩
def c26_0:=bodyOf Tryz.f26
def run26{args:List V}{st:St}(ha:args.length≤29):=b_1 (T:=tb) (fid:=26) (st:=st) (by rw[a_];exact Tryz.func26) (by rw[a_];rfl) (c:=c26_0) (rs:= #[.tmp 6, .tmp 7, .tmp 8]) rfl rfl rfl ha
def c26_2:=kid c26_0 1
def c26_4:=kid c26_2 1
def c26_5:=kid c26_4 0
def c26_7:=kid c26_5 1
def c26_8:=kid c26_7 0
def c26_12:=kid c26_4 1
noncomputable def L26_1:Lt (kid c26_0 0):= .mk _
noncomputable def L26_3:Lt (kid c26_2 0):= .mk _
noncomputable def L26_6:Lt (kid c26_5 0):= .mk _
noncomputable def L26_9:Lt (kid c26_8 0):= .mk _
noncomputable def L26_13:Lt (kid c26_12 0):= .mk _
theorem S26:D tb c26_0=D tb (.seq (Rg L26_1) c26_2)∧D tb c26_2=D tb (.seq (Rg L26_3) c26_4)∧D tb c26_4=D tb (.seq c26_5 c26_12)∧D tb c26_5=D tb (.seq (Rg L26_6) c26_7)∧D tb c26_7=D tb (.cond (.tmp 19) c26_8 .skip)∧D tb c26_8=D tb (.seq (Rg L26_9) .ret)∧D tb c26_12=D tb (.seq (Rg L26_13) .ret):=⟨rfl,rfl,rfl,rfl,rfl,rfl,rfl⟩
def c27_0:=bodyOf Tryz.f27
def c27_2:=kid c27_0 1
def c27_4:=kid c27_2 1
def c27_6:=kid c27_4 1
def c27_14:=kid c27_6 1
def c27_16:=kid c27_14 1
def c27_17:=kid c27_16 0
def c27_19:=kid c27_17 1
def c27_20:=kid c27_19 0
def c27_21:=kid c27_20 0
theorem e27_20:c27_20= .loop c27_21:=rfl
def c29_0:=bodyOf Tryz.f29
def run29{args:List V}{st:St}(ha:args.length≤27):=z_0 (T:=tb) (fid:=29) (st:=st) (by rw[a_];exact Tryz.func29) (by rw[a_];rfl) (c:=c29_0) (rs:= #[.cell 4 37, .tmp 5]) rfl rfl rfl ha
def c29_2:=kid c29_0 1
def c29_4:=kid c29_2 1
def c29_5:=kid c29_4 0
def c29_7:=kid c29_5 1
def c29_8:=kid c29_7 0
def c29_12:=kid c29_4 1
def c29_14:=kid c29_12 1
def c29_16:=kid c29_14 1
noncomputable def L29_1:Lt (kid c29_0 0):= .mk _
noncomputable def L29_3:Lt (kid c29_2 0):= .mk _
noncomputable def L29_6:Lt (kid c29_5 0):= .mk _
noncomputable def L29_9:Lt (kid c29_8 0):= .mk _
noncomputable def L29_13:Lt (kid c29_12 0):= .mk _
noncomputable def L29_15:Lt (kid c29_14 0):= .mk _
noncomputable def L29_17:Lt (kid c29_16 0):= .mk _
theorem S29:D tb c29_0=D tb (.seq (Rg L29_1) c29_2)∧D tb c29_2=D tb (.seq (Rg L29_3) c29_4)∧D tb c29_4=D tb (.seq c29_5 c29_12)∧D tb c29_5=D tb (.seq (Rg L29_6) c29_7)∧D tb c29_7=D tb (.cond (.tmp 12) c29_8 .skip)∧D tb c29_8=D tb (.seq (Rg L29_9) .ret)∧D tb c29_12=D tb (.seq (Rg L29_13) c29_14)∧D tb c29_14=D tb (.seq (Rg L29_15) c29_16)∧D tb c29_16=D tb (.seq (Rg L29_17) .ret):=⟨rfl,rfl,rfl,rfl,rfl,rfl,rfl,rfl,rfl⟩
def c30_0:=bodyOf Tryz.f30
def c30_2:=kid c30_0 1
def c30_3:=kid c30_2 0
def c30_5:=kid c30_3 1
def c30_6:=kid c30_5 0
def c30_7:=kid c30_6 0
theorem e30_6:c30_6= .loop c30_7:=rfl
def c31_0:=bodyOf Tryz.f31
def c31_2:=kid c31_0 1
def c31_3:=kid c31_2 0
def c31_5:=kid c31_3 1
def c31_6:=kid c31_5 0
def c31_7:=kid c31_6 0
theorem e31_6:c31_6= .loop c31_7:=rfl
def c33_0:=bodyOf Tryz.f33
def run33{args:List V}{st:St}(ha:args.length≤12):=z_0 (T:=tb) (fid:=33) (st:=st) (by rw[a_];exact Tryz.func33) (by rw[a_];rfl) (c:=c33_0) (rs:= #[.tmp 4]) rfl rfl rfl ha
def c33_2:=kid c33_0 1
noncomputable def L33_1:Lt (kid c33_0 0):= .mk _
noncomputable def L33_3:Lt (kid c33_2 0):= .mk _
theorem S33:D tb c33_0=D tb (.seq (Rg L33_1) c33_2)∧D tb c33_2=D tb (.seq (Rg L33_3) .ret):=⟨rfl,rfl⟩
def c34_0:=bodyOf Tryz.f34
def c34_2:=kid c34_0 1
def c34_3:=kid c34_2 0
def c34_5:=kid c34_3 1
def c34_6:=kid c34_5 0
def c34_7:=kid c34_6 0
theorem e34_6:c34_6= .loop c34_7:=rfl
def c41_0:=bodyOf Tryz.f41
def run41{args:List V}{st:St}(ha:args.length≤49):=b_1 (T:=tb) (fid:=41) (st:=st) (by rw[a_];exact Tryz.func41) (by rw[a_];rfl) (c:=c41_0) (rs:= #[.tmp 2]) rfl rfl rfl ha
def c41_2:=kid c41_0 1
def c41_4:=kid c41_2 1
def c41_5:=kid c41_4 0
def c41_7:=kid c41_5 1
def c41_8:=kid c41_7 0
def c41_9:=kid c41_8 0
def c41_11:=kid c41_9 1
def c41_12:=kid c41_11 0
def c41_15:=kid c41_11 1
def c41_16:=kid c41_15 0
def c41_17:=kid c41_16 0
def c41_21:=kid c41_4 1
def c41_22:=kid c41_21 0
def c41_24:=kid c41_22 1
def c41_25:=kid c41_24 0
def c41_26:=kid c41_25 0
def c41_28:=kid c41_26 1
def c41_29:=kid c41_28 0
def c41_32:=kid c41_28 1
def c41_33:=kid c41_32 0
def c41_34:=kid c41_33 0
def c41_38:=kid c41_21 1
theorem p41_8:D tb c41_8 rd 49 f m st=loopK tb rd c41_8 49 f m st fun e fr st=>some (e,fr,st):=a_8
theorem e41_8:c41_8= .loop c41_9:=rfl
theorem w41_8:writes c41_9=some [12,13,14,5,15,16,17,18,19,20,21,22,23,24,25,26,27,3,28,11]:=by kernel_rfl
theorem p41_25:D tb c41_25 rd 49 f m st=loopK tb rd c41_25 49 f m st fun e fr st=>some (e,fr,st):=a_8
theorem e41_25:c41_25= .loop c41_26:=rfl
theorem w41_25:writes c41_26=some [33,34,35,7,36,37,38,39,40,41,42,43,44,45,46,3,47,32]:=by kernel_rfl
noncomputable def L41_1:Lt (kid c41_0 0):= .mk _
noncomputable def L41_3:Lt (kid c41_2 0):= .mk _
noncomputable def L41_6:Lt (kid c41_5 0):= .mk _
noncomputable def L41_10:Lt (kid c41_9 0):= .mk _
noncomputable def L41_18:Lt (kid c41_17 0):= .mk _
noncomputable def L41_19:Lt (kid c41_17 1):= .mk _
noncomputable def L41_20:Lt (kid c41_15 1):= .mk _
noncomputable def L41_23:Lt (kid c41_22 0):= .mk _
noncomputable def L41_27:Lt (kid c41_26 0):= .mk _
noncomputable def L41_35:Lt (kid c41_34 0):= .mk _
noncomputable def L41_36:Lt (kid c41_34 1):= .mk _
noncomputable def L41_37:Lt (kid c41_32 1):= .mk _
noncomputable def L41_39:Lt (kid c41_38 0):= .mk _
theorem S41:D tb c41_0=D tb (.seq (Rg L41_1) c41_2)∧D tb c41_2=D tb (.seq (Rg L41_3) c41_4)∧D tb c41_4=D tb (.seq c41_5 c41_21)∧D tb c41_5=D tb (.seq (Rg L41_6) c41_7)∧D tb c41_7=D tb (.block 0 c41_8)∧D tb c41_9=D tb (.seq (Rg L41_10) c41_11)∧D tb c41_11=D tb (.seq c41_12 c41_15)∧D tb c41_12=D tb (.cond (.tmp 12) .skip (.exit 0))∧D tb c41_15=D tb (.seq c41_16 (Rg L41_20))∧D tb c41_16=D tb (.block 1 c41_17)∧D tb c41_17=D tb (.seq (Rg L41_18) (Rg L41_19))∧D tb c41_21=D tb (.seq c41_22 c41_38)∧D tb c41_22=D tb (.seq (Rg L41_23) c41_24)∧D tb c41_24=D tb (.block 2 c41_25)∧D tb c41_26=D tb (.seq (Rg L41_27) c41_28)∧D tb c41_28=D tb (.seq c41_29 c41_32)∧D tb c41_29=D tb (.cond (.tmp 33) .skip (.exit 2))∧D tb c41_32=D tb (.seq c41_33 (Rg L41_37))∧D tb c41_33=D tb (.block 3 c41_34)∧D tb c41_34=D tb (.seq (Rg L41_35) (Rg L41_36))∧D tb c41_38=D tb (.seq (Rg L41_39) .ret):=⟨rfl,rfl,rfl,rfl,rfl,rfl,rfl,rfl,rfl,rfl,rfl,rfl,rfl,rfl,rfl,rfl,rfl,rfl,rfl,rfl,rfl⟩
def c43_0:=bodyOf Tryz.f43
def run43{args:List V}{st:St}(ha:args.length≤4):=b_1 (T:=tb) (fid:=43) (st:=st) (by rw[a_];exact Tryz.func43) (by rw[a_];rfl) (c:=c43_0) (rs:= #[.tmp 2]) rfl rfl rfl ha
def c43_2:=kid c43_0 1
noncomputable def L43_1:Lt (kid c43_0 0):= .mk _
noncomputable def L43_3:Lt (kid c43_2 0):= .mk _
theorem S43:D tb c43_0=D tb (.seq (Rg L43_1) c43_2)∧D tb c43_2=D tb (.seq (Rg L43_3) .ret):=⟨rfl,rfl⟩
def c44_0:=bodyOf Tryz.f44
def run44{args:List V}{st:St}(ha:args.length≤85):=z_0 (T:=tb) (fid:=44) (st:=st) (by rw[a_];exact Tryz.func44) (by rw[a_];rfl) (c:=c44_0) (rs:= #[.tmp 4]) rfl rfl rfl ha
def c44_2:=kid c44_0 1
def c44_4:=kid c44_2 1
def c44_6:=kid c44_4 1
def c44_7:=kid c44_6 0
def c44_9:=kid c44_7 1
def c44_10:=kid c44_9 0
def c44_11:=kid c44_10 0
def c44_13:=kid c44_11 1
def c44_14:=kid c44_13 0
def c44_17:=kid c44_13 1
def c44_18:=kid c44_17 0
def c44_19:=kid c44_18 0
def c44_21:=kid c44_19 1
def c44_22:=kid c44_21 0
def c44_24:=kid c44_22 1
def c44_27:=kid c44_21 1
def c44_29:=kid c44_27 1
def c44_31:=kid c44_29 1
def c44_32:=kid c44_31 0
def c44_33:=kid c44_32 0
def c44_35:=kid c44_33 1
def c44_36:=kid c44_35 0
def c44_39:=kid c44_35 1
def c44_40:=kid c44_39 0
def c44_41:=kid c44_40 0
def c44_43:=kid c44_41 1
def c44_44:=kid c44_43 0
noncomputable def o44_45:=opsOf (kid c44_44 0)
def c44_46:=kid c44_44 1
def c44_49:=kid c44_43 1
def c44_51:=kid c44_49 1
def c44_56:=kid c44_6 1
theorem p44_10:D tb c44_10 rd 85 f m st=loopK tb rd c44_10 85 f m st fun e fr st=>some (e,fr,st):=a_8
theorem e44_10:c44_10= .loop c44_11:=rfl
theorem w44_10:writes c44_11=some [15,16,17,8,18,19,20,21,22,23,24,25,26,27,28,29,30,31,5,32,33,34,35,36,37,38,39,40,41,42,43,44,45,46,10,9,47,48,49,50,51,52,53,54,55,56,57,58,59,60,61,62,63,5,64,65,66,67,68,69,70,71,72,73,74,75,76,77,78,79,80,81,5,82,42,83,14]:=by kernel_rfl
theorem p44_32:D tb c44_32 rd 85 f m st=loopK tb rd c44_32 85 f m st fun e fr st=>some (e,fr,st):=a_8
theorem e44_32:c44_32= .loop c44_33:=rfl
theorem w44_32:writes c44_33=some [43,44,45,46,10,9,47,48,49,50,51,52,53,54,55,56,57,58,59,60,61,62,63,5,64,65,66,67,68,69,70,71,72,73,74,75,76,77,78,79,80,81,5,82,42]:=by kernel_rfl
noncomputable def l44_45:{l:List DStep//drawAt o44_45 [(0,0),(1,1),(2,3),(3,7),(4,0),(5,16),(7,0),(6,63),(8,255)]=l}:=by refine⟨?_,?h⟩;case h=>simp only[drawAt,entsAt,o44_45,c44_44,c44_43,c44_41,c44_40,c44_39,c44_35,c44_33,c44_32,c44_31,c44_29,c44_27,c44_21,c44_19,c44_18,c44_17,c44_13,c44_11,c44_10,c44_9,c44_7,c44_6,c44_4,c44_2,c44_0,opsOf,kid,bodyOf,Tryz.f44,Option.getD_some,List.map,stepOf,Option.map,List.getElem?_toArray,List.getElem?_cons_succ,List.getElem?_cons_zero,Option.bind_some];rfl
theorem q44_45:D tb (.region 12 o44_45 true) rd 85 f m st=regB (evDraws tb (run tb) l44_45.1 [] (mk 85 f m) st):=o_8 [(0,0),(1,1),(2,3),(3,7),(4,0),(5,16),(7,0),(6,63),(8,255)] (by kernel_rfl) l44_45.2
noncomputable def L44_1:Lt (kid c44_0 0):= .mk _
noncomputable def L44_3:Lt (kid c44_2 0):= .mk _
noncomputable def L44_5:Lt (kid c44_4 0):= .mk _
noncomputable def L44_8:Lt (kid c44_7 0):= .mk _
noncomputable def L44_12:Lt (kid c44_11 0):= .mk _
noncomputable def L44_20:Lt (kid c44_19 0):= .mk _
noncomputable def L44_23:Lt (kid c44_22 0):= .mk _
noncomputable def L44_25:Lt (kid c44_24 0):= .mk _
noncomputable def L44_28:Lt (kid c44_27 0):= .mk _
noncomputable def L44_30:Lt (kid c44_29 0):= .mk _
noncomputable def L44_34:Lt (kid c44_33 0):= .mk _
noncomputable def L44_42:Lt (kid c44_41 0):= .mk _
noncomputable def L44_47:Lt (kid c44_46 0):= .mk _
noncomputable def L44_50:Lt (kid c44_49 0):= .mk _
noncomputable def L44_52:Lt (kid c44_51 0):= .mk _
noncomputable def L44_54:Lt (kid c44_39 1):= .mk _
noncomputable def L44_55:Lt (kid c44_17 1):= .mk _
noncomputable def L44_57:Lt (kid c44_56 0):= .mk _
theorem S44:D tb c44_0=D tb (.seq (Rg L44_1) c44_2)∧D tb c44_2=D tb (.seq (Rg L44_3) c44_4)∧D tb c44_4=D tb (.seq (Rg L44_5) c44_6)∧D tb c44_6=D tb (.seq c44_7 c44_56)∧D tb c44_7=D tb (.seq (Rg L44_8) c44_9)∧D tb c44_9=D tb (.block 0 c44_10)∧D tb c44_11=D tb (.seq (Rg L44_12) c44_13)∧D tb c44_13=D tb (.seq c44_14 c44_17)∧D tb c44_14=D tb (.cond (.tmp 15) .skip (.exit 0))∧D tb c44_17=D tb (.seq c44_18 (Rg L44_55))∧D tb c44_18=D tb (.block 1 c44_19)∧D tb c44_19=D tb (.seq (Rg L44_20) c44_21)∧D tb c44_21=D tb (.seq c44_22 c44_27)∧D tb c44_22=D tb (.seq (Rg L44_23) c44_24)∧D tb c44_24=D tb (.cond (.tmp 23) (Rg L44_25) .skip)∧D tb c44_27=D tb (.seq (Rg L44_28) c44_29)∧D tb c44_29=D tb (.seq (Rg L44_30) c44_31)∧D tb c44_31=D tb (.block 2 c44_32)∧D tb c44_33=D tb (.seq (Rg L44_34) c44_35)∧D tb c44_35=D tb (.seq c44_36 c44_39)∧D tb c44_36=D tb (.cond (.tmp 43) .skip (.exit 2))∧D tb c44_39=D tb (.seq c44_40 (Rg L44_54))∧D tb c44_40=D tb (.block 3 c44_41)∧D tb c44_41=D tb (.seq (Rg L44_42) c44_43)∧D tb c44_43=D tb (.seq c44_44 c44_49)∧D tb c44_44=D tb (.seq (.region 12 o44_45 true) c44_46)∧D tb c44_46=D tb (.cond (.tmp 55) (Rg L44_47) .skip)∧D tb c44_49=D tb (.seq (Rg L44_50) c44_51)∧D tb c44_51=D tb (.cond (.tmp 73) (Rg L44_52) .skip)∧D tb c44_56=D tb (.seq (Rg L44_57) .ret):=⟨rfl,rfl,rfl,rfl,rfl,rfl,rfl,rfl,rfl,rfl,rfl,rfl,rfl,rfl,rfl,rfl,rfl,rfl,rfl,rfl,rfl,rfl,rfl,rfl,rfl,rfl,rfl,rfl,rfl,rfl⟩
def c45_0:=bodyOf Tryz.f45
def run45{args:List V}{st:St}(ha:args.length≤109):=b_1 (T:=tb) (fid:=45) (st:=st) (by rw[a_];exact Tryz.func45) (by rw[a_];rfl) (c:=c45_0) (rs:= #[.tmp 6]) rfl rfl rfl ha
def c45_2:=kid c45_0 1
def c45_3:=kid c45_2 0
def c45_4:=kid c45_3 0
def c45_6:=kid c45_4 1
def c45_7:=kid c45_6 0
def c45_10:=kid c45_6 1
def c45_12:=kid c45_10 1
def c45_13:=kid c45_12 0
def c45_17:=kid c45_2 1
noncomputable def o45_18:=opsOf (kid c45_17 0)
def c45_19:=kid c45_17 1
def c45_20:=kid c45_19 0
def c45_22:=kid c45_20 1
def c45_23:=kid c45_22 0
def c45_24:=kid c45_23 0
def c45_26:=kid c45_24 1
def c45_27:=kid c45_26 0
def c45_30:=kid c45_26 1
def c45_31:=kid c45_30 0
def c45_32:=kid c45_31 0
def c45_34:=kid c45_32 1
def c45_35:=kid c45_34 0
noncomputable def o45_36:=opsOf (kid c45_35 0)
def c45_37:=kid c45_35 1
def c45_38:=kid c45_37 0
def c45_42:=kid c45_34 1
def c45_44:=kid c45_42 1
def c45_46:=kid c45_44 1
def c45_50:=kid c45_19 1
def c45_51:=kid c45_50 0
def c45_53:=kid c45_51 1
def c45_56:=kid c45_50 1
def c45_58:=kid c45_56 1
noncomputable def l45_18:{l:List DStep//drawAt o45_18 [(0,0),(1,1),(2,3),(3,7),(4,0),(5,31)]=l}:=by refine⟨?_,?h⟩;case h=>simp only[drawAt,entsAt,o45_18,c45_17,c45_2,c45_0,opsOf,kid,bodyOf,Tryz.f45,Option.getD_some,List.map,stepOf,Option.map,List.getElem?_toArray,List.getElem?_cons_succ,List.getElem?_cons_zero,Option.bind_some];rfl
theorem q45_18:D tb (.region 5 o45_18 true) rd 109 f m st=regB (evDraws tb (run tb) l45_18.1 [] (mk 109 f m) st):=o_8 [(0,0),(1,1),(2,3),(3,7),(4,0),(5,31)] (by kernel_rfl) l45_18.2
theorem p45_23:D tb c45_23 rd 109 f m st=loopK tb rd c45_23 109 f m st fun e fr st=>some (e,fr,st):=a_8
theorem e45_23:c45_23= .loop c45_24:=rfl
theorem w45_23:writes c45_24=some [39,40,41,10,42,43,44,45,46,47,48,49,50,51,52,53,54,55,56,57,58,59,60,61,62,63,64,6,65,66,67,68,69,70,71,8,72,73,74,75,76,77,78,79,80,81,7,82,83,84,85,86,87,7,88,38]:=by kernel_rfl
noncomputable def l45_36:{l:List DStep//drawAt o45_36 [(0,0),(1,1),(2,3),(3,7),(4,15),(5,31),(6,31),(7,95),(8,223),(9,479),(10,31),(11,1055),(12,4063),(13,31),(14,31),(15,16415),(16,49183),(17,114719),(18,245791),(19,516127),(20,1048575),(21,2097151),(22,4194303)]=l}:=by refine⟨?_,?h⟩;case h=>simp only[drawAt,entsAt,o45_36,c45_35,c45_34,c45_32,c45_31,c45_30,c45_26,c45_24,c45_23,c45_22,c45_20,c45_19,c45_17,c45_2,c45_0,opsOf,kid,bodyOf,Tryz.f45,Option.getD_some,List.map,stepOf,Option.map,List.getElem?_toArray,List.getElem?_cons_succ,List.getElem?_cons_zero,Option.bind_some];rfl
theorem q45_36:D tb (.region 9 o45_36 true) rd 109 f m st=regB (evDraws tb (run tb) l45_36.1 [] (mk 109 f m) st):=o_8 [(0,0),(1,1),(2,3),(3,7),(4,15),(5,31),(6,31),(7,95),(8,223),(9,479),(10,31),(11,1055),(12,4063),(13,31),(14,31),(15,16415),(16,49183),(17,114719),(18,245791),(19,516127),(20,1048575),(21,2097151),(22,4194303)] (by kernel_rfl) l45_36.2
noncomputable def L45_1:Lt (kid c45_0 0):= .mk _
noncomputable def L45_5:Lt (kid c45_4 0):= .mk _
noncomputable def L45_8:Lt (kid c45_7 0):= .mk _
noncomputable def L45_11:Lt (kid c45_10 0):= .mk _
noncomputable def L45_14:Lt (kid c45_13 0):= .mk _
noncomputable def L45_21:Lt (kid c45_20 0):= .mk _
noncomputable def L45_25:Lt (kid c45_24 0):= .mk _
noncomputable def L45_33:Lt (kid c45_32 0):= .mk _
noncomputable def L45_39:Lt (kid c45_38 0):= .mk _
noncomputable def L45_43:Lt (kid c45_42 0):= .mk _
noncomputable def L45_45:Lt (kid c45_44 0):= .mk _
noncomputable def L45_47:Lt (kid c45_46 0):= .mk _
noncomputable def L45_48:Lt (kid c45_46 1):= .mk _
noncomputable def L45_49:Lt (kid c45_30 1):= .mk _
noncomputable def L45_52:Lt (kid c45_51 0):= .mk _
noncomputable def L45_54:Lt (kid c45_53 0):= .mk _
noncomputable def L45_57:Lt (kid c45_56 0):= .mk _
noncomputable def L45_59:Lt (kid c45_58 0):= .mk _
theorem S45:D tb c45_0=D tb (.seq (Rg L45_1) c45_2)∧D tb c45_2=D tb (.seq c45_3 c45_17)∧D tb c45_3=D tb (.block 0 c45_4)∧D tb c45_4=D tb (.seq (Rg L45_5) c45_6)∧D tb c45_6=D tb (.cond (.tmp 11) c45_7 c45_10)∧D tb c45_7=D tb (.seq (Rg L45_8) .ret)∧D tb c45_10=D tb (.seq (Rg L45_11) c45_12)∧D tb c45_12=D tb (.cond (.tmp 22) c45_13 .skip)∧D tb c45_13=D tb (.seq (Rg L45_14) .ret)∧D tb c45_17=D tb (.seq (.region 5 o45_18 true) c45_19)∧D tb c45_19=D tb (.seq c45_20 c45_50)∧D tb c45_20=D tb (.seq (Rg L45_21) c45_22)∧D tb c45_22=D tb (.block 1 c45_23)∧D tb c45_24=D tb (.seq (Rg L45_25) c45_26)∧D tb c45_26=D tb (.seq c45_27 c45_30)∧D tb c45_27=D tb (.cond (.tmp 39) .skip (.exit 1))∧D tb c45_30=D tb (.seq c45_31 (Rg L45_49))∧D tb c45_31=D tb (.block 2 c45_32)∧D tb c45_32=D tb (.seq (Rg L45_33) c45_34)∧D tb c45_34=D tb (.seq c45_35 c45_42)∧D tb c45_35=D tb (.seq (.region 9 o45_36 true) c45_37)∧D tb c45_37=D tb (.cond (.tmp 64) c45_38 .skip)∧D tb c45_38=D tb (.seq (Rg L45_39) .ret)∧D tb c45_42=D tb (.seq (Rg L45_43) c45_44)∧D tb c45_44=D tb (.seq (Rg L45_45) c45_46)∧D tb c45_46=D tb (.cond (.tmp 75) (Rg L45_47) (Rg L45_48))∧D tb c45_50=D tb (.seq c45_51 c45_56)∧D tb c45_51=D tb (.seq (Rg L45_52) c45_53)∧D tb c45_53=D tb (.cond (.tmp 92) (Rg L45_54) .skip)∧D tb c45_56=D tb (.seq (Rg L45_57) c45_58)∧D tb c45_58=D tb (.seq (Rg L45_59) .ret):=⟨rfl,rfl,rfl,rfl,rfl,rfl,rfl,rfl,rfl,rfl,rfl,rfl,rfl,rfl,rfl,rfl,rfl,rfl,rfl,rfl,rfl,rfl,rfl,rfl,rfl,rfl,rfl,rfl,rfl,rfl,rfl⟩
def c48_0:=bodyOf Tryz.f48
def c48_2:=kid c48_0 1
def c48_4:=kid c48_2 1
def c48_5:=kid c48_4 0
def c48_7:=kid c48_5 1
def c48_8:=kid c48_7 0
def c48_9:=kid c48_8 0
theorem e48_8:c48_8= .loop c48_9:=rfl
def c52_0:=bodyOf Tryz.f52
def c52_2:=kid c52_0 1
def c52_10:=kid c52_2 1
def c52_12:=kid c52_10 1
def c52_20:=kid c52_12 1
def c52_22:=kid c52_20 1
def c52_24:=kid c52_22 1
def c52_26:=kid c52_24 1
def c52_28:=kid c52_26 1
def c52_29:=kid c52_28 0
def c52_31:=kid c52_29 1
def c52_32:=kid c52_31 0
def c52_33:=kid c52_32 0
theorem e52_32:c52_32= .loop c52_33:=rfl
def c54_0:=bodyOf Tryz.f54
def c54_2:=kid c54_0 1
def c54_4:=kid c54_2 1
def c54_6:=kid c54_4 1
def c54_7:=kid c54_6 0
def c54_9:=kid c54_7 1
def c54_10:=kid c54_9 0
def c54_11:=kid c54_10 0
def c54_13:=kid c54_11 1
def c54_14:=kid c54_13 0
def c54_15:=kid c54_14 0
def c54_29:=kid c54_6 1
def c54_31:=kid c54_29 1
def c54_32:=kid c54_31 0
def c54_34:=kid c54_32 1
def c54_35:=kid c54_34 0
def c54_36:=kid c54_35 0
theorem e54_14:c54_14= .loop c54_15:=rfl
theorem e54_35:c54_35= .loop c54_36:=rfl
def c55_0:=bodyOf Tryz.f55
def run55{args:List V}{st:St}(ha:args.length≤34):=b_1 (T:=tb) (fid:=55) (st:=st) (by rw[a_];exact Tryz.func55) (by rw[a_];rfl) (c:=c55_0) (rs:= #[.tmp 8, .tmp 9]) rfl rfl rfl ha
def c55_2:=kid c55_0 1
def c55_4:=kid c55_2 1
def c55_5:=kid c55_4 0
def c55_7:=kid c55_5 1
def c55_8:=kid c55_7 0
def c55_12:=kid c55_4 1
noncomputable def L55_1:Lt (kid c55_0 0):= .mk _
noncomputable def L55_3:Lt (kid c55_2 0):= .mk _
noncomputable def L55_6:Lt (kid c55_5 0):= .mk _
noncomputable def L55_9:Lt (kid c55_8 0):= .mk _
noncomputable def L55_13:Lt (kid c55_12 0):= .mk _
theorem S55:D tb c55_0=D tb (.seq (Rg L55_1) c55_2)∧D tb c55_2=D tb (.seq (Rg L55_3) c55_4)∧D tb c55_4=D tb (.seq c55_5 c55_12)∧D tb c55_5=D tb (.seq (Rg L55_6) c55_7)∧D tb c55_7=D tb (.cond (.tmp 26) c55_8 .skip)∧D tb c55_8=D tb (.seq (Rg L55_9) .ret)∧D tb c55_12=D tb (.seq (Rg L55_13) .ret):=⟨rfl,rfl,rfl,rfl,rfl,rfl,rfl⟩
def c66_0:=bodyOf Tryz.f66
def run66{args:List V}{st:St}(ha:args.length≤8):=z_0 (T:=tb) (fid:=66) (st:=st) (by rw[a_];exact Tryz.func66) (by rw[a_];rfl) (c:=c66_0) (rs:= #[.tmp 3]) rfl rfl rfl ha
def c66_2:=kid c66_0 1
noncomputable def L66_1:Lt (kid c66_0 0):= .mk _
noncomputable def L66_3:Lt (kid c66_2 0):= .mk _
theorem S66:D tb c66_0=D tb (.seq (Rg L66_1) c66_2)∧D tb c66_2=D tb (.seq (Rg L66_3) .ret):=⟨rfl,rfl⟩
def c88_0:=bodyOf Tryz.f88
def run88{args:List V}{st:St}(ha:args.length≤19):=b_1 (T:=tb) (fid:=88) (st:=st) (by rw[a_];exact Tryz.func88) (by rw[a_];rfl) (c:=c88_0) (rs:= #[]) rfl rfl rfl ha
def c88_2:=kid c88_0 1
def c88_3:=kid c88_2 0
def c88_4:=kid c88_3 0
def c88_5:=kid c88_4 0
def c88_7:=kid c88_5 1
def c88_10:=kid c88_4 1
def c88_11:=kid c88_10 0
def c88_12:=kid c88_11 0
def c88_14:=kid c88_12 1
theorem p88_3:D tb c88_3 rd 19 f m st=loopK tb rd c88_3 19 f m st fun e fr st=>some (e,fr,st):=a_8
theorem e88_3:c88_3= .loop c88_4:=rfl
theorem w88_3:writes c88_4=some [7,8,11,12,13,14,15,16,17,18,9,10,3]:=by kernel_rfl
noncomputable def L88_1:Lt (kid c88_0 0):= .mk _
noncomputable def L88_6:Lt (kid c88_5 0):= .mk _
noncomputable def L88_13:Lt (kid c88_12 0):= .mk _
noncomputable def L88_17:Lt (kid c88_10 1):= .mk _
theorem S88:D tb c88_0=D tb (.seq (Rg L88_1) c88_2)∧D tb c88_2=D tb (.block 0 c88_3)∧D tb c88_4=D tb (.seq c88_5 c88_10)∧D tb c88_5=D tb (.seq (Rg L88_6) c88_7)∧D tb c88_7=D tb (.cond (.tmp 8) .skip (.exit 0))∧D tb c88_10=D tb (.seq c88_11 (Rg L88_17))∧D tb c88_11=D tb (.block 1 c88_12)∧D tb c88_12=D tb (.seq (Rg L88_13) c88_14)∧D tb c88_14=D tb (.cond (.tmp 18) .ret .skip):=⟨rfl,rfl,rfl,rfl,rfl,rfl,rfl,rfl,rfl⟩
end
end Go.Proofs.YtghhphdkojjalaaGreatDoor
namespace Go.Proofs.YtghhphdkojjalaaGreatDoor
open Go.Abs
attribute [local simp] K_0 L_0 q_ z_4 l_0 M_1 z_ y_2 t_9 c_7 j_7 m_9 c_ e_9 j_8 c_3 h_4 finish dropMarks resOf
 resList o_3 l_4 i_8 e_6 d_ c_1 n_5 j_ c_0 b_ a_9 c_4 c_2 f_7 f_5 c_6
 c_8 e_5 m_8 L_4 D_1 m_3 B_5 f_ M_0 s_un D_0 s_ c_9 d_2 q_7 r_9 j_6 z_2 r_3 K_5 B_ D_ L_1 l_6
 d_1 b_9 l_7 q_4 g_ i_2 m_0 m_7 m_4 m_6 a_7 d_0 f_6 e_4 e_2 j_5 j_1 i_4 e_1
 t_3 m_1 n_4 n_1 s_6 t_2 u_5 q_5 i_9 s_7 evArgs o_5 k_ l_8 f_3 g_9 v_2 ofValue ofValues isConst C_7 y_8 x_8 x_4
 A_0 z_3 C_0 y_3 z_1 B_0 C_2 z_8 C_6 A_5 A_6 y_ strBin bne C_3 B_3 B_6 convV evConv optArg a_6 argF B_4 s_9 q_8 p_ n_2 x_5
 t_4 p_4 l_2 k_0 i_0 g_1 j_4 g_5 d_8 y_5 u_0 i_5 k_1 okCells L_3 b_4 g_0 d_9 i_3 i_1 f_1
 i_6 j_0 l_ q_9 r_4 m_ t_6 s_5 n_0 t_ t_8 j_2 h_1 e_3 e_0 h_3 splice putElem k_8 i_ l_1 g_6
 t_7 e_8 bdV fill l_9 bsF setAll d_6 f_2 x_1 n_7 e_7 h_6 h_5 f_4 p_2 v_7 t_1 s_1 x_7 r_5 s_0 p_6 j_9
 q_3 x_2 C_4 p_5 g_8 d_7 p_3 v_8 p_0 u_2 h_8 z_5 q_0 n_3 y_4 u_4 u_3 C_5 l_5 r_1 d_4 n_ h_7 B_1
 q_6 C_1 A_8 B_7 g_7 r_7 q_1 y_7 y_6 y_9 x_6 u_1 l_3 u_7 s_4 deep List.getD_cons_zero List.getD_cons_succ List.getElem?_cons_zero
 List.getElem?_cons_succ List.getElem?_nil t_0 s_2 A_9 x_9 y_0 A_2 u_6 q_2 B_9 y_1 r_0 s_8 r_6 t_5 r_2 r_ n_6 m_5 z_7 z_6
 j_3 i_7 s_3 r_8 f_9 f_0 A_ C_8 A_4 C_9 ld9 und9 ln9 ix9 ld3 sr3 und3 ld67 sr67 R_0 ia67 ib67 ln67 lo67 ap67 bs67 ld4 sr4 und4 p100_6 p133_6 p67_6 D_Rg
 S25 L25_1 L25_3 S35 L35_1 L35_3 L35_5 S49 L49_1 L49_4 L49_7 L49_11 L49_13 L49_15 S51 L51_1 L51_3 L51_7 L51_10 L51_13 L51_16 L51_19 L51_22 L51_25 L51_28 L51_32 S56 L56_1 L56_4 L56_7 L56_11 S67 L67_1
 L67_3 L67_9 L67_15 L67_16 L67_18 S68 L68_1 L68_4 L68_7 L68_11 S90 L90_1 L90_3 S94 L94_1 L94_4 L94_6 L94_9 L94_14 L94_16 L94_19 L94_23 S95 L95_1 L95_3 S98 L98_1 L98_3 S99 L99_1 L99_3 S100 L100_1 L100_3
 L100_9 L100_14 L100_16 S101 L101_1 L101_3 S133 L133_1 L133_4 L133_8 L133_16 L133_18 L133_21 L133_24 L133_26 S138 L138_1 L138_3 S139 L139_1 L139_3 S141 L141_1 L141_3 S175 L175_1 L175_4 L175_7 L175_11
set_option maxRecDepth 100000
set_option linter.unusedSimpArgs false
set_option linter.unusedVariables false
set_option maxHeartbeats 4000000
def letter(c:UInt8):Bool:=decide ((97:Int)≤(c.toNat:Int))&&decide ((c.toNat:Int)≤122)
def digit(c:UInt8):Bool:=decide ((48:Int)≤(c.toNat:Int))&&decide ((c.toNat:Int)≤57)
def inner(c:UInt8):Bool:=letter c||digit c||((c.toNat:Int)==95)
theorem al_9(c:UInt8)(st:St):(run tb).call 98 [.int .u8 (c.toNat:Int)] st=some (.bool (letter c),st):=by
 unfold letter
 rw[run98 (by simp)]
 simp[-List.getD_eq_getElem?_getD, -getElem?_pos]
 repeat' (first|refine a_0 ?_ ?_|refine Out.branch ?_ ?_|refine Ret.branch ?_ ?_)<;>(intro hb;(try(simp only[NB]at hb));simp[-List.getD_eq_getElem?_getD, -getElem?_pos,hb])
theorem ba_7(c:UInt8)(st:St):(run tb).call 141 [.int .u8 (c.toNat:Int)] st=some (.bool (digit c),st):=by
 unfold digit
 rw[run141 (by simp)]
 simp[-List.getD_eq_getElem?_getD, -getElem?_pos]
 repeat' (first|refine a_0 ?_ ?_|refine Out.branch ?_ ?_|refine Ret.branch ?_ ?_)<;>(intro hb;(try(simp only[NB]at hb));simp[-List.getD_eq_getElem?_getD, -getElem?_pos,hb])
theorem bh_(c:UInt8)(st:St):(run tb).call 101 [.int .u8 (c.toNat:Int)] st=some (.bool (inner c),st):=by
 unfold inner
 rw[run101 (by simp)]
 simp[al_9, -List.getD_eq_getElem?_getD, -getElem?_pos]
 repeat' (first|refine a_0 ?_ ?_|refine Out.branch ?_ ?_|refine Ret.branch ?_ ?_)<;>(intro hb;(try(simp only[NB]at hb));simp[ba_7, -List.getD_eq_getElem?_getD, -getElem?_pos,hb])
theorem bm_8(p:UInt8→Bool)(g:Nat)(hg:g≠198)(hp:∀c st,(run tb).call g [.int .u8 (UInt8.toNat c:Int)] st=some (.bool (p c),st))(s:Str)(hs:s.length<2^40)(st:St):(run tb).call 100 [.str s, .func (.func g) [] []] st=some (.int .i64 (span p s:Nat),st):=by
 have hsl:=aZ_6 p s
 rw[run100 (by simp)]
 simp[-List.getD_eq_getElem?_getD, -getElem?_pos]
 refine b_8 (b_3 e100_6 w100_6 s.length (I:=fun i f st'=>st'=emptySt∧f 5= .int .i64 (i:Nat)∧i≤span p s) (Q:=fun e f st'=>st'=emptySt∧f 5= .int .i64 (span p s:Nat)∧e= .exit 0) ?_ ?_ ?_) ?_
 ·simp
 ·rintro i f st' hi hk ⟨rfl,h5,hle⟩
  have hx:=getE hi
  have ha:=add1 (i:=i) (by omega)
  have h1:=az_8 p s i hi hle
  have h2:=aw_7 p s i hi hle
  simp[-List.getD_eq_getElem?_getD, -getElem?_pos,hk,h5,hi,hx,a_6 hg,hp]
  repeat' (first|refine a_0 ?_ ?_|refine Out.branch ?_ ?_|refine Ret.branch ?_ ?_)<;>(intro hb;(try(simp only[NB]at hb));simp[-List.getD_eq_getElem?_getD, -getElem?_pos,h5,ha,hb])
  all_goals try refine Out.one ?_
  all_goals try refine Ret.one ?_
  all_goals simp[*]
 ·rintro f st' hk ⟨rfl,h5,hle⟩
  have h1:span p s=s.length:=by omega
  simp[-List.getD_eq_getElem?_getD, -getElem?_pos,hk,h5,h1]
  refine Out.one ?_
  simp[*]
 ·rintro e f st' ⟨⟨rfl,h5,rfl⟩,hk⟩
  simp[-List.getD_eq_getElem?_getD, -getElem?_pos,h5]
theorem bc_9(fl:Bool)(nl:Option Bool)(xs:List Str)(hx:xs.length<2^40)(s:Str)(st:St):(run tb).call 133 [.list fl nl (xs.map .str), .str s] st=some (.int .i64 (idxI (fun x=>s==x) xs),st):=by
 have hle:=J_7 (fun x=>s==x) xs
 rw[run133 (by simp)]
 simp[-List.getD_eq_getElem?_getD, -getElem?_pos]
 refine b_8 (b_3 e133_6 w133_6 xs.length (I:=fun i f st'=>st'=st∧f 8= .int .i64 (i:Nat)∧i≤idx (fun x=>s==x) xs) (Q:=fun e f st'=>st'=st∧(e= .exit 0∧idxI (fun x=>s==x) xs= -1∨e= .ret∧f 4= .int .i64 (idxI (fun x=>s==x) xs))) ?_ ?_ ?_) ?_
 ·simp
 ·rintro i f st' hi hk ⟨rfl,h8,hle⟩
  have hx:=getE hi
  have ha:=add1 (i:=i) (by omega)
  have h1:=w_5 (fun x=>s==x) xs i hi hle
  have h2:=fun h=>v_0 (w_ (fun x=>s==x) xs i hi hle h) hi
  simp[-List.getD_eq_getElem?_getD, -getElem?_pos,hk,h8,hi,hx]
  repeat' (first|refine a_0 ?_ ?_|refine Out.branch ?_ ?_|refine Ret.branch ?_ ?_)<;>(intro hb;(try(simp only[NB]at hb));simp[-List.getD_eq_getElem?_getD, -getElem?_pos,h8,ha,hb])
  all_goals try refine Out.one ?_
  all_goals try refine Ret.one ?_
  all_goals simp[*]
 ·rintro f st' hk ⟨rfl,h8,hle'⟩
  have h1:=u_9 (p:=fun x=>s==x) (s:=xs) (by omega)
  simp[-List.getD_eq_getElem?_getD, -getElem?_pos,hk,h8,h1]
  refine Out.one ?_
  simp[*]
 ·rintro e f st' ⟨⟨rfl,⟨rfl,h⟩|⟨rfl,h⟩⟩,hk⟩
  ·simp[-List.getD_eq_getElem?_getD, -getElem?_pos,h]
  ·simp[-List.getD_eq_getElem?_getD, -getElem?_pos,h]
theorem aX_1(r:Nat)(xs:List Str)(hx:xs.length<2^40)(s:Str)(st:St)(hr:st.store[r]? =some (.way (xs.map .str))):(run tb).call 133 [.slice r 1 0 xs.length, .str s] st=some (.int .i64 (idxI (fun x=>s==x) xs),st):=by
 have hle:=J_7 (fun x=>s==x) xs
 rw[run133 (by simp)]
 simp[-List.getD_eq_getElem?_getD, -getElem?_pos]
 refine b_8 (b_3 e133_6 w133_6 xs.length (I:=fun i f st'=>st'=st∧f 8= .int .i64 (i:Nat)∧i≤idx (fun x=>s==x) xs) (Q:=fun e f st'=>st'=st∧(e= .exit 0∧idxI (fun x=>s==x) xs= -1∨e= .ret∧f 4= .int .i64 (idxI (fun x=>s==x) xs))) ?_ ?_ ?_) ?_
 ·simp
 ·rintro i f st' hi hk ⟨rfl,h8,hle⟩
  have hx:=getE hi
  have ha:=add1 (i:=i) (by omega)
  have h1:=w_5 (fun x=>s==x) xs i hi hle
  have h2:=fun h=>v_0 (w_ (fun x=>s==x) xs i hi hle h) hi
  simp[-List.getD_eq_getElem?_getD, -getElem?_pos,hk,h8,hi,hx,hr,bj_]
  repeat' (first|refine a_0 ?_ ?_|refine Out.branch ?_ ?_|refine Ret.branch ?_ ?_)<;>(intro hb;(try(simp only[NB]at hb));simp[-List.getD_eq_getElem?_getD, -getElem?_pos,h8,ha,hb])
  all_goals try refine Out.one ?_
  all_goals try refine Ret.one ?_
  all_goals simp[*]
 ·rintro f st' hk ⟨rfl,h8,hle'⟩
  have h1:=u_9 (p:=fun x=>s==x) (s:=xs) (by omega)
  simp[-List.getD_eq_getElem?_getD, -getElem?_pos,hk,h8,h1]
  refine Out.one ?_
  simp[*]
 ·rintro e f st' ⟨⟨rfl,⟨rfl,h⟩|⟨rfl,h⟩⟩,hk⟩
  ·simp[-List.getD_eq_getElem?_getD, -getElem?_pos,h]
  ·simp[-List.getD_eq_getElem?_getD, -getElem?_pos,h]
theorem ab_2(fl:Bool)(nl:Option Bool)(xs:List Str)(hx:xs.length<2^40)(s:Str)(st:St):(run tb).call 90 [.list fl nl (xs.map .str), .str s] st=some (.bool (xs.any fun x=>s==x),st):=by
 have h:=I_ (fun x=>s==x) xs
 rw[run90 (by simp)]
 simp[bc_9, -List.getD_eq_getElem?_getD, -getElem?_pos,hx,h]
theorem aq_6(r:Nat)(xs:List Str)(hx:xs.length<2^40)(s:Str)(st:St)(hr:st.store[r]? =some (.way (xs.map .str))):(run tb).call 90 [.slice r 1 0 xs.length, .str s] st=some (.bool (xs.any fun x=>s==x),st):=by
 have h:=I_ (fun x=>s==x) xs
 rw[run90 (by simp)]
 simp[-List.getD_eq_getElem?_getD, -getElem?_pos,h,aX_1 r xs hx s st hr]
def word(s:Str):Bool:=wordL.any fun x=>s==x
theorem bj_5(s:Str)(st:St):(run tb).call 99 [.str s] st=some (.bool (word s),st):=by
 have h:wordL.length<2^40:=by decide
 unfold word
 rw[run99 (by simp)]
 simp[aw_4,ab_2, -List.getD_eq_getElem?_getD, -getElem?_pos,h]
def isName(s:Str):Bool:=match s with
 |[]=>false
 |c::r=> !decide ((16:Int)<((c::r).length:Int))&&letter c&& !word (c::r)&&(c::r).all inner
theorem v_(s:Str)(hs:s.length<2^40)(st:St):(run tb).call 68 [.str s] st=some (.bool (isName s),st):=by
 cases s with
 |nil=>
  unfold isName
  rw[run68 (by simp)]
  simp[-List.getD_eq_getElem?_getD, -getElem?_pos]
 |cons c r=>
  have h:=aN_3 inner (c::r)
  have hs':r.length+1<1099511627776:=by simpa using hs
  generalize hg:span inner (c::r)=g at *
  generalize hG:(c::r).all inner=G at *
  have h':(((g:Nat):Int)==((r.length:Nat):Int)+1)=G:=by
   rw[←h,Bool.eq_iff_iff]
   simp only[beq_iff_eq,List.length_cons];omega
  unfold isName
  rw[run68 (by simp)]
  simp[-List.getD_eq_getElem?_getD, -getElem?_pos,hG]
  repeat' (first|refine a_0 ?_ ?_|refine Out.branch ?_ ?_|refine Ret.branch ?_ ?_)<;>(intro hb;(try(simp only[Bool.not_eq_eq_eq_not,Bool.not_true,Bool.not_false]at hb));simp[al_9,bj_5, -List.getD_eq_getElem?_getD, -getElem?_pos,bm_8 inner 101 (by decide) bh_,hs',hg,h',hb])
def intS:Str:=[105,110,116]
def refS:Str:=[114,101,102,32]
def mutS:Str:=[109,117,116,32]
theorem M_9(s p:Str)(hs:s.length<2^40)(st:St):(run tb).call 139 [.str s, .str p] st=some (.bool (hasPre s p),st):=by
 unfold hasPre
 rw[run139 (by simp)]
 by_cases h:p.length≤s.length
 ·have h1:=ai_2 (T:=tb) (k:= .i64) und9 (Int.natCast_nonneg p.length) (by omega:(p.length:Int)≤(s.length:Nat))
  simp only[Int.toNat_natCast]at h1
  simp[-List.getD_eq_getElem?_getD, -getElem?_pos,h,h1]
 ·simp[-List.getD_eq_getElem?_getD, -getElem?_pos,h]
theorem I_6(s p:Str)(hs:s.length<2^40)(st:St):(run tb).call 95 [.str s, .str p] st=some (.bool (hasPre s p),st):=by
 simp at hs
 rw[run95 (by simp)]
 simp[M_9, -List.getD_eq_getElem?_getD, -getElem?_pos,hs]
theorem ak_1(s p:Str)(hs:s.length<2^40)(st:St):(run tb).call 175 [.str s, .str p] st=some (.tup [.str (if hasPre s p then s.drop p.length else s), .bool (hasPre s p)],st):=by
 simp at hs
 rw[run175 (by simp)]
 cases h:hasPre s p with
 |false=>
  simp[M_9, -List.getD_eq_getElem?_getD, -getElem?_pos,hs,h]
 |true=>
  have h1:=O_9 (T:=tb) (k:= .i64) und9 (Int.natCast_nonneg p.length) (by have:=p_8 h;omega:(p.length:Int)≤(s.length:Nat))
  simp only[Int.toNat_natCast]at h1
  simp[M_9, -List.getD_eq_getElem?_getD, -getElem?_pos,hs,h,h1]
theorem as_(s p:Str)(hs:s.length<2^40)(st:St):(run tb).call 138 [.str s, .str p] st=some (.tup [.str (if hasPre s p then s.drop p.length else s), .bool (hasPre s p)],st):=by
 simp at hs
 rw[run138 (by simp)]
 simp[ak_1, -List.getD_eq_getElem?_getD, -getElem?_pos,hs]
theorem aO_6(s:Str)(hs:s.length<2^40)(st:St):(run tb).call 67 [.str s] st=some (.tup [.str (strip s).1, .int .i64 ((strip s).2:Nat)],st):=by
 rw[run67 (by simp)]
 simp[-List.getD_eq_getElem?_getD, -getElem?_pos]
 refine b_8 (aj_ e67_6 w67_6 _ (I:=fun m f st'=>∃(u:Str) (k:Nat),m=u.length∧st'=emptySt∧f 0= .str u∧f 4= .int .i64 (k:Nat)∧k+u.length≤s.length∧strip s=((strip u).1,(strip u).2+k)) (Q:=fun e f st'=>st'=emptySt∧e= .exit 0∧f 0= .str (strip s).1∧f 4= .int .i64 ((strip s).2:Nat)) ?_ _ _ _ (fun _ _ _=>rfl) ⟨s,0,rfl,rfl,?_,?_,by omega,rfl⟩) ?_
 ·rintro m f st' hk ⟨u,k,rfl,rfl,h0,h4,hle,he⟩
  have hu:u.length<1099511627776:=by omega
  have ha:=add1 (i:=k) (by omega)
  cases hb:hasPre u boxS with
  |false=>
   have hb':hasPre u [98,111,120,32]=false:=hb
   rw[x_3 hb]at he
   simp[I_6, -List.getD_eq_getElem?_getD, -getElem?_pos,h0,hu,hb',he]
   refine Out.one ?_
   simp[*]
  |true=>
   have hb':hasPre u [98,111,120,32]=true:=hb
   have hl:4≤u.length:=p_8 hb
   rw[L_6 hb]at he
   have h1:=O_9 (T:=tb) (k:= .i64) und9 (by decide:(0:Int)≤4) (by omega:(4:Int)≤(u.length:Nat))
   simp at h1
   simp[I_6, -List.getD_eq_getElem?_getD, -getElem?_pos,h0,h4,hu,hb',h1,ha]
   repeat' (first|refine a_0 ?_ ?_|refine Out.branch ?_ ?_|refine Ret.branch ?_ ?_)<;>(intro hb;(try(simp only[NB]at hb));simp[I_6, -List.getD_eq_getElem?_getD, -getElem?_pos,hk,h0,h4,hu,hb',h1,ha,hb])
   all_goals try refine Out.one ?_
   all_goals try refine Ret.one ?_
   all_goals try(simp[-List.getD_eq_getElem?_getD, *];done)
   all_goals try simp[-List.getD_eq_getElem?_getD]
   all_goals try(intros;omega)
   exact⟨_,by simp;omega,List.drop 4 u,rfl,rfl,k+1,by simp,by simp;omega,by rw[he];simp;omega⟩
 ·simp
 ·simp
 ·rintro e f st' ⟨⟨rfl,rfl,h0,h4⟩,hk⟩
  simp[-List.getD_eq_getElem?_getD, -getElem?_pos,h0,h4]
def plain(s:Str):Bool:=decide (((strip s).2:Int)≤8)&&((strip s).1==intS||isName (strip s).1)
theorem O_6(s:Str)(hs:s.length<2^40)(st:St):(run tb).call 35 [.str s] st=some (.bool (plain s),st):=by
 have hl:(strip s).1.length<1099511627776:=by have:=ay_4 _ s (Nat.le_refl _);omega
 simp at hs
 unfold plain intS
 rw[run35 (by simp)]
 simp[aO_6, -List.getD_eq_getElem?_getD, -getElem?_pos,hs]
 repeat' (first|refine a_0 ?_ ?_|refine Out.branch ?_ ?_|refine Ret.branch ?_ ?_)<;>(intro hb;(try(simp only[NB]at hb));simp[v_, -List.getD_eq_getElem?_getD, -getElem?_pos,hl,hb])
def front(s:Str):Int×Str:=if hasPre s refS then(4,s.drop 4)else if hasPre s mutS then(5,s.drop 4)else(0,s)
theorem aB_8(s:Str):(front s).2.length≤s.length:=by
 unfold front;split
 ·simp
 ·split<;>simp
theorem aB_7(s:Str)(hs:s.length<2^40)(st:St):(run tb).call 94 [.str s] st=some (.tup [.int .i64 (front s).1, .str (front s).2],st):=by
 simp at hs
 unfold front refS mutS
 rw[run94 (by simp)]
 cases h1:hasPre s [114,101,102,32]<;>cases h2:hasPre s [109,117,116,32]
 all_goals
  simp[as_, -List.getD_eq_getElem?_getD, -getElem?_pos,hs,h1,h2]
def kindOf(s:Str):Int:=
 if plain (front s).2=false then 0 else if((front s).1 !=0)=true then(front s).1 else if((front s).2==intS)=true then 1 else if hasPre (front s).2 boxS=true then 3 else 2
theorem P_3(s:Str)(hs:s.length<2^40)(st:St):(run tb).call 51 [.str s] st=some (.int .i64 (kindOf s),st):=by
 have hl:(front s).2.length<1099511627776:=by have:=aB_8 s;omega
 simp at hs
 rw[run51 (by simp)]
 simp[aB_7,O_6, -List.getD_eq_getElem?_getD, -getElem?_pos,hs,hl]
 repeat' (first|refine a_0 ?_ ?_|refine Out.branch ?_ ?_|refine Ret.branch ?_ ?_)<;>(intro hb;(try(simp only[Bool.not_eq_eq_eq_not,Bool.not_true,Bool.not_false]at hb));simp[I_6, -List.getD_eq_getElem?_getD, -getElem?_pos,hl,hb])
 all_goals try refine Out.one ?_
 all_goals try refine Ret.one ?_
 all_goals try(simp[-List.getD_eq_getElem?_getD,hs,hl, *];done)
 all_goals try simp[-List.getD_eq_getElem?_getD,hs,hl]
 all_goals try(intros;omega)
 all_goals try simp_all[kindOf,intS,boxS]
 all_goals try(intros;omega)
def baseOf(s:Str):Str×Bool:=if(kindOf s==0)=true then([],false)else((strip (front s).2).1,true)
theorem bl_7(s:Str)(hs:s.length<2^40)(st:St):(run tb).call 49 [.str s] st=some (.tup [.str (baseOf s).1, .bool (baseOf s).2],st):=by
 have hl:(front s).2.length<1099511627776:=by have:=aB_8 s;omega
 simp at hs
 rw[run49 (by simp)]
 simp[P_3, -List.getD_eq_getElem?_getD, -getElem?_pos,hs]
 repeat' (first|refine a_0 ?_ ?_|refine Out.branch ?_ ?_|refine Ret.branch ?_ ?_)<;>(intro hb;(try(simp only[NB]at hb));simp[aB_7,aO_6, -List.getD_eq_getElem?_getD, -getElem?_pos,hs,hl,hb])
 all_goals try refine Out.one ?_
 all_goals try refine Ret.one ?_
 all_goals try(simp[-List.getD_eq_getElem?_getD,hs,hl, *];done)
 all_goals try simp[-List.getD_eq_getElem?_getD,hs,hl]
 all_goals try(intros;omega)
 all_goals try simp_all[baseOf]
 all_goals try(intros;omega)
def withW(w s:Str):Str×Bool:=if(!plain s||kindOf (w ++s)==0)=true then([],false)else(w ++s,true)
theorem as_7(w s:Str)(hs:s.length<2^30)(hw:w.length<2^30)(st:St):(run tb).call 56 [.str w, .str s] st=some (.tup [.str (withW w s).1, .bool (withW w s).2],st):=by
 have h1:s.length<1099511627776:=by omega
 have h2:w.length+s.length<1099511627776:=by omega
 have h3:w.length+s.length<2^62:=by omega
 simp at h3
 rw[run56 (by simp)]
 simp[O_6, -List.getD_eq_getElem?_getD, -getElem?_pos,h1]
 repeat' (first|refine a_0 ?_ ?_|refine Out.branch ?_ ?_|refine Ret.branch ?_ ?_)<;>(intro hb;(try(simp only[Bool.not_eq_eq_eq_not,Bool.not_true,Bool.not_false]at hb));simp[P_3, -List.getD_eq_getElem?_getD, -getElem?_pos,h2,h3,hb])
 all_goals try refine Out.one ?_
 all_goals try refine Ret.one ?_
 all_goals try(simp[-List.getD_eq_getElem?_getD,h1,h2,h3, *];done)
 all_goals try simp[-List.getD_eq_getElem?_getD,h1,h2,h3]
 all_goals try(intros;omega)
 all_goals try simp_all[withW]
 all_goals try(intros;omega)
theorem be_3(s:Str)(hs:s.length<2^30)(st:St):(run tb).call 25 [.str s] st=some (.tup [.str (withW boxS s).1, .bool (withW boxS s).2],st):=by
 simp at hs
 unfold boxS
 rw[run25 (by simp)]
 simp[as_7, -List.getD_eq_getElem?_getD, -getElem?_pos,hs]
end Go.Proofs.YtghhphdkojjalaaGreatDoor
namespace Go.Proofs.YtghhphdkojjalaaGreatDoor
open Go.Abs
theorem hasPre_iff{s p:Str}:hasPre s p=true↔∃r,s=p ++r:=by
 unfold hasPre
 simp only[Bool.and_eq_true,decide_eq_true_eq,beq_iff_eq]
 constructor
 ·rintro⟨_,h⟩
  exact⟨s.drop p.length,by
   have e:=List.take_append_drop p.length s
   rw[h]at e;exact e.symm⟩
 ·rintro⟨r,rfl⟩
  simp
theorem aI_:inner 32=false:=by decide
theorem aT_6{s:Str}(h:isName s=true):∀c∈s,inner c=true:=by
 cases s with
 |nil=>simp[isName]at h
 |cons c r=>
  simp only[isName,Bool.and_eq_true,List.all_eq_true]at h
  exact h.2
theorem ai_9{s p:Str}(hp:(32:UInt8)∈p)(h:hasPre s p=true):isName s=false∧s≠intS:=by
 obtain⟨r,rfl⟩:=hasPre_iff.1 h
 constructor
 ·cases hn:isName (p ++r)with
  |false=>rfl
  |true=>
   have:=aT_6 hn 32 (by simp[hp])
   rw[aI_]at this;cases this
 ·intro e
  have:(32:UInt8)∈intS:=by rw[←e];simp[hp]
  revert this;decide
theorem I_8{s:Str}(h:hasPre s boxS=false):plain s=(s==intS||isName s):=by
 unfold plain;rw[x_3 h];simp
theorem av_9{s:Str}(h:hasPre s boxS=true):plain s=(decide ((((strip (s.drop 4)).2:Int)+1)≤8)&&((strip (s.drop 4)).1==intS||isName (strip (s.drop 4)).1)):=by
 unfold plain;rw[L_6 h];simp
theorem Z_1{s:Str}(h:hasPre s boxS=true):plain s=(plain (s.drop 4)&& !((strip (s.drop 4)).2==8)):=by
 rw[av_9 h]
 unfold plain
 by_cases h1:(((strip (s.drop 4)).2:Int)+1)≤8
 ·have h2:((strip (s.drop 4)).2:Int)≤8:=by omega
  have h3:((strip (s.drop 4)).2==8)=false:=by simp;omega
  simp[h1,h2,h3]
 ·by_cases h2:((strip (s.drop 4)).2:Int)≤8
  ·have h3:(strip (s.drop 4)).2=8:=by omega
   simp[h3]
  ·simp[h1,h2]
theorem N_4:plain []=false:=by
 rw[I_8 (by decide)];rfl
theorem S_1{s p:Str}(hp:(32:UInt8)∈p)(h:hasPre s p=true)(hb:hasPre s boxS=false):plain s=false:=by
 obtain⟨h1,h2⟩:=ai_9 hp h
 rw[I_8 hb,h1];simp[h2]
theorem aE_{s:Str}(h:hasPre s refS=true):hasPre s boxS=false:=by
 obtain⟨r,rfl⟩:=hasPre_iff.1 h
 cases hb:hasPre (refS ++r) boxS with
 |false=>rfl
 |true=>
  obtain⟨r',h'⟩:=hasPre_iff.1 hb
  simp[refS,boxS]at h'
theorem aD_1{s:Str}(h:hasPre s mutS=true):hasPre s boxS=false:=by
 obtain⟨r,rfl⟩:=hasPre_iff.1 h
 cases hb:hasPre (mutS ++r) boxS with
 |false=>rfl
 |true=>
  obtain⟨r',h'⟩:=hasPre_iff.1 hb
  simp[mutS,boxS]at h'
theorem bt_1{s:Str}(h:hasPre s mutS=true):hasPre s refS=false:=by
 obtain⟨r,rfl⟩:=hasPre_iff.1 h
 cases hb:hasPre (mutS ++r) refS with
 |false=>rfl
 |true=>
  obtain⟨r',h'⟩:=hasPre_iff.1 hb
  simp[mutS,refS]at h'
theorem O_7{s:Str}(h:plain s=true):kindOf s=if s==intS then 1 else if isName s then 2 else 3:=by
 have h1:hasPre s refS=false:=by
  cases hr:hasPre s refS with
  |false=>rfl
  |true=>rw[S_1 (by decide) hr (aE_ hr)]at h;cases h
 have h2:hasPre s mutS=false:=by
  cases hr:hasPre s mutS with
  |false=>rfl
  |true=>rw[S_1 (by decide) hr (aD_1 hr)]at h;cases h
 have hf:front s=(0,s):=by simp[front,h1,h2]
 unfold kindOf
 rw[hf]
 simp only[h]
 by_cases hi:s=intS
 ·simp[hi]
 ·cases hb:hasPre s boxS with
  |true=>
   have:=(ai_9 (p:=boxS) (by decide) hb).1
   simp[hi,this]
  |false=>
   rw[I_8 hb]at h
   have:isName s=true:=by simpa[hi]using h
   simp[hi,this]
theorem as_3{s:Str}(h:hasPre s refS=true):kindOf s=if plain (s.drop 4)then 4 else 0:=by
 have hf:front s=(4,s.drop 4):=by simp[front,h]
 unfold kindOf;rw[hf]
 cases plain (s.drop 4)<;>simp
theorem ar_5{s:Str}(h:hasPre s mutS=true):kindOf s=if plain (s.drop 4)then 5 else 0:=by
 have hf:front s=(5,s.drop 4):=by simp[front,h,bt_1 h]
 unfold kindOf;rw[hf]
 cases plain (s.drop 4)<;>simp
theorem Q_6{s:Str}(hp:plain s=false)(h1:hasPre s refS=false)(h2:hasPre s mutS=false):kindOf s=0:=by
 have hf:front s=(0,s):=by simp[front,h1,h2]
 unfold kindOf;rw[hf];simp[hp]
theorem G_6{s:Str}(h:plain s=true):front s=(0,s):=by
 have h1:hasPre s refS=false:=by
  cases hr:hasPre s refS with
  |false=>rfl
  |true=>rw[S_1 (by decide) hr (aE_ hr)]at h;cases h
 have h2:hasPre s mutS=false:=by
  cases hr:hasPre s mutS with
  |false=>rfl
  |true=>rw[S_1 (by decide) hr (aD_1 hr)]at h;cases h
 simp[front,h1,h2]
theorem al_7(s:Str):(kindOf s=0)∨(kindOf s=1∧plain s=true∧s=intS)∨(kindOf s=2∧plain s=true∧isName s=true)∨(kindOf s=3∧plain s=true∧hasPre s boxS=true∧plain (s.drop 4)=true)∨
  ((kindOf s=4∧hasPre s refS=true∨kindOf s=5∧hasPre s mutS=true)∧plain (s.drop 4)=true∧(front s).2=s.drop 4):=by
 cases h1:hasPre s refS with
 |true=>
  rw[as_3 h1]
  cases hp:plain (s.drop 4)with
  |false=>left;simp
  |true=>right;right;right;right;simp[front,h1]
 |false=>
  cases h2:hasPre s mutS with
  |true=>
   rw[ar_5 h2]
   cases hp:plain (s.drop 4)with
   |false=>left;simp
   |true=>right;right;right;right;simp[front,h1,h2]
  |false=>
   cases hp:plain s with
   |false=>left;exact Q_6 hp h1 h2
   |true=>
    rw[O_7 hp]
    by_cases hi:s=intS
    ·right;left;simp[hi]
    ·cases hn:isName s with
     |true=>right;right;left;simp[hi]
     |false=>
      right;right;right;left
      have hb:hasPre s boxS=true:=by
       cases hb:hasPre s boxS with
       |true=>rfl
       |false=>rw[I_8 hb]at hp;simp[hi,hn]at hp
      have:=Z_1 hb
      rw[hp]at this
      have h3:plain (s.drop 4)=true:=by
       cases hq:plain (s.drop 4)with
       |true=>rfl
       |false=>rw[hq]at this;simp at this
      simp[hi,hb,h3]
theorem P_0{s:Str}(h:plain s=true):kindOf s≠0:=by
 rw[O_7 h];split
 ·decide
 ·split<;>decide
theorem av_2{u:Str}(h:(3:Int)≤kindOf u):4≤u.length∧kindOf (u.drop 4)≠0∧(strip (front (u.drop 4)).2).1=(strip (front u).2).1:=by
 rcases al_7 u with h0|⟨h0,_⟩|⟨h0,_⟩|⟨h0,hp,hb,hd⟩|⟨h0,hd,hf⟩
 ·omega
 ·omega
 ·omega
 ·refine⟨p_8 hb,P_0 hd,?_⟩
  rw[G_6 hd,G_6 hp,L_6 hb]
 ·have hl:4≤u.length:=by rcases h0 with⟨_,h⟩|⟨_,h⟩<;>exact p_8 h
  refine⟨hl,P_0 hd,?_⟩
  rw[G_6 hd,hf]
end Go.Proofs.YtghhphdkojjalaaGreatDoor
namespace Go.Proofs.YtghhphdkojjalaaGreatDoor
open Go.Abs
attribute [local simp] K_0 L_0 q_ z_4 l_0 M_1 z_ y_2 t_9 c_7 j_7 m_9 c_ e_9 j_8 c_3 h_4 finish dropMarks resOf
 resList o_3 l_4 i_8 e_6 d_ c_1 n_5 j_ c_0 b_ a_9 c_4 c_2 f_7 f_5 c_6
 c_8 e_5 m_8 L_4 D_1 m_3 B_5 f_ M_0 s_un D_0 s_ c_9 d_2 q_7 r_9 j_6 z_2 r_3 K_5 B_ D_ L_1 l_6
 d_1 b_9 l_7 q_4 g_ i_2 m_0 m_7 m_4 m_6 a_7 d_0 f_6 e_4 e_2 j_5 j_1 i_4 e_1
 t_3 m_1 n_4 n_1 s_6 t_2 u_5 q_5 i_9 s_7 evArgs o_5 k_ l_8 f_3 g_9 v_2 ofValue ofValues isConst C_7 y_8 x_8 x_4
 A_0 z_3 C_0 y_3 z_1 B_0 C_2 z_8 C_6 A_5 A_6 y_ strBin bne C_3 B_3 B_6 convV evConv optArg a_6 argF B_4 s_9 q_8 p_ n_2 x_5
 t_4 p_4 l_2 k_0 i_0 g_1 j_4 g_5 d_8 y_5 u_0 i_5 k_1 okCells L_3 b_4 g_0 d_9 i_3 i_1 f_1
 i_6 j_0 l_ q_9 r_4 m_ t_6 s_5 n_0 t_ t_8 j_2 h_1 e_3 e_0 h_3 splice putElem k_8 i_ l_1 g_6
 t_7 e_8 bdV fill l_9 bsF setAll d_6 f_2 x_1 n_7 e_7 h_6 h_5 f_4 p_2 v_7 t_1 s_1 x_7 r_5 s_0 p_6 j_9
 q_3 x_2 C_4 p_5 g_8 d_7 p_3 v_8 p_0 u_2 h_8 z_5 q_0 n_3 y_4 u_4 u_3 C_5 l_5 r_1 d_4 n_ h_7 B_1
 q_6 C_1 A_8 B_7 g_7 r_7 q_1 y_7 y_6 y_9 x_6 u_1 l_3 u_7 s_4 deep List.getD_cons_zero List.getD_cons_succ List.getElem?_cons_zero
 List.getElem?_cons_succ List.getElem?_nil t_0 s_2 A_9 x_9 y_0 A_2 u_6 q_2 B_9 y_1 r_0 s_8 r_6 t_5 r_2 r_ n_6 m_5 z_7 z_6
 j_3 i_7 s_3 r_8 f_9 f_0 A_ C_8 A_4 C_9 ld69 sr69 al69 an_8 ao_4 ld67 sr67 R_0 ia67 ib67 ln67 lo67 ap67 bs67 ld3 sr3 und3 ld9 und9 ln9 ix9 ld4 sr4
 und4 ld70 sr70 ay_8 ia70 ib70 ln70 lo70 ap70 bs70 D_Rg
set_option maxRecDepth 100000
set_option linter.unusedSimpArgs false
set_option linter.unusedVariables false
set_option maxHeartbeats 4000000
def isStep(s:Str):Bool:=(s==[42])||isName s
def isPlace(p:Place):Bool:=p.steps.all isStep&&isName p.loc&&decide ((p.steps.length:Int)≤8)
def noPlace(p:Place):Bool:=(p.loc==[])&&((p.steps.length:Int)==0)
def allPlaces(ps:List Place)(a b:Int):Bool:=ps.all isPlace&&decide (a≤(ps.length:Int))&&decide ((ps.length:Int)≤b)
def optName(s:Str)(b:Bool):Bool:=if b then isName s else s==[]
end Go.Proofs.YtghhphdkojjalaaGreatDoor
