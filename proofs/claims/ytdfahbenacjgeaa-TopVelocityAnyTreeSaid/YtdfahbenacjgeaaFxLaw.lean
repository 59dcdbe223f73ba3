import Derived.Test.YtdfahbenacjgeaaFxArgs
import Derived.Test.YtdfahbenacjgeaaFxTell
set_option linter.unusedSimpArgs false
set_option linter.unusedVariables false
namespace Go.Ix
open Go.ChangeShapes Go.RowKit
variable{P:Program}{H:Type}{enc:TypeId×Value->H}
theorem ext_same{W W':World}(h:Ext (λ_=>True) W W'){p:MemPlace}(hp:p.block<W.heap.size):W.sameAt W' p:=by
 cases p with
 |cell b o=>exact World.cell?_of_block (w:=W) (h.same b trivial hp)
 |map b=>exact h.same b trivial hp
theorem ext_kept{W W':World}(h:Ext (λ_=>True) W W')(may:MemPlace->Prop):W.keptBut W' may:=by refine⟨h.os,h.out,λi hi=>?_⟩;rw[h.same i trivial hi];split<;>simp_all
theorem x6i(hl:laidOutB P=true){W W':World}{base:Nat}{sp':Nat->Bool}:∀{ts:List TypeId} {vs:List Value} {ds:List (DataW H)} {ps:List MemPlace},(∀t∈ts,P.readableRec t=true/\t<P.types.size) ->
 DataW.TrodAll enc P W base (λ_=>true) true ts vs ds ps->(∀p∈ps,W.sameAt W' p)->(∀p∈ps,sp' p.block=true)->DataW.TrodAll enc P W' base sp' true ts vs ds ps
 |[],[],[],_,_,h,_,_=>h
 |t::ts,v::vs,d::ds,_,hr,⟨p,q,h1,h2,rfl⟩,hs,hsp=>
  ⟨p,q,WideElems.Trod_stays hl (hr t (xcf ..)).1 (hr t (xcf ..)).2 h1 (λx hx=>hs x (xei _ hx)) (λx hx=>hsp x (xei _ hx)),
   x6i hl (λu hu=>hr u (xc9 _ hu)) h2 (λx hx=>hs x (List.mem_append_right _ hx)) (λx hx=>hsp x (List.mem_append_right _ hx)),rfl⟩
 |[],[],_::_,_,_,h,_,_=>h.elim
 |[],_::_,_,_,_,h,_,_=>h.elim
 |_::_,[],_,_,_,h,_,_=>h.elim
 |_::_,_::_,[],_,_,h,_,_=>h.elim
theorem law_post{f:Func}{s:ChangeSpec}{apart fresh handsOn:Bool}{W W':World}{args:Array Value}{ds gs:List (DataW H)}{before:List MemPlace}{tb:TypeId}(hW:DataW.Whole enc P f.params.toList s.vars apart W args.toList ds gs before)(hx:Ext (λ_=>True) W W')(hv:s.vars=[])(hfn:s.fn H (ds++gs)={results:=[.lit (.bool true)],args:=ds})(hres:f.resultTypes.toList=[tb])(htb:P.underlying tb=some .bool)(hl:laidOutB P=true)(hr:∀t∈f.params.toList,P.readableRec t=true/\t<P.types.size) :
 s.post enc P f apart fresh handsOn false W args (.bool true) W':=by
 have hlt:=hW.lt;have hW':=hW;obtain⟨p,q,hA,hV,rfl,hfz,hnd⟩:=hW;have hsz:f.resultTypes.size=1:=(by rw[<-xdk,hres];rfl);refine⟨ds,gs,_,[],p,[],hW',?_,?_,?_,?_,λh=>by cases h⟩
 .rw[hfn,hres,hsz];refine trodAll_mk1 ⟨1,?_⟩;simp[DataW.trod,htb,Value.cells]
 .rw[hfn];exact x6i hl hr hA (λx hx'=>ext_same hx (hlt x (xei _ hx'))) (λx hx'=>by simpa using hlt x (xei _ hx'))
 .rw[hfn,hv];exact rfl
 .exact ext_kept hx _
end Go.Ix
