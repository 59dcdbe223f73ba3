import Derived.Test.YtjngclcijnpooaaGreatDoorFxArgs
import Derived.Test.YtjngclcijnpooaaGreatDoorFxTell
set_option linter.all false
namespace Go.Ix
open Go.ChangeShapes Go.RowKit
variable{P:Program}{H:Type}{enc:TypeId×Value->H}
def x1m{W a:World}(h:Ext (λ_=>True) W a){p:MemPlace}(d:p.block<W.heap.size):W.sameAt a p:=by
 cases p with
 |cell b o=>exact World.cell?_of_block (w:=W) (h.same b trivial d)
 |map b=>exact h.same b trivial d
def x1n{W a:World}(h:Ext (λ_=>True) W a)(kV:MemPlace->Prop):W.keptBut a kV:=by refine⟨h.os,h.out,λi b=>?_⟩;rw[h.same i trivial b];split<;>simp_all
def H'(n:laidOutB P=true){W o:World}{a:Nat}{e:Nat->Bool}:∀{g:List TypeId} {j:List Value} {l:List (DataW H)} {i:List MemPlace},(∀t∈g,P.readableRec t=true/\t<P.types.size) ->
    DataW.TrodAll enc P W a (λ_=>true) true g j l i->(∀p∈i,W.sameAt o p)->(∀p∈i,e p.block=true)->DataW.TrodAll enc P o a e true g j l i
 |[],[],[],_,_,h,_,_=>h
 |t::g,v::j,d::l,_,m,⟨p,q,w,y,rfl⟩,Z,f=>
  ⟨p,q,WideElems.Trod_stays n (m t (eP ..)).1 (m t (eP ..)).2 w (λx b=>Z x (zT _ b)) (λx b=>f x (zT _ b)),
   H' n (λu r=>m u (eE _ r)) y (λx b=>Z x (MA _ b)) (λx b=>f x (MA _ b)),rfl⟩
 |[],[],_::_,_,_,h,_,_=>h.elim
 |[],_::_,_,_,_,h,_,_=>h.elim
 |_::_,[],_,_,_,h,_,_=>h.elim
 |_::_,_::_,[],_,_,h,_,_=>h.elim
def law_post{f:Func}{s:ChangeSpec}{apart fresh a:Bool}{W u:World}{b:Array Value}{l m:List (DataW H)}{d:List MemPlace}{tb:TypeId}(n:DataW.Whole enc P f.params.toList s.vars apart W b.toList l m d)(w:Ext (λ_=>True) W u)(y:s.vars=[])(g:s.fn H (l++m)={results:=[.lit (.bool true)],args:=l})(e:f.resultTypes.toList=[tb])(o:P.underlying tb=some .bool)(A:laidOutB P=true)(C:∀t∈f.params.toList,P.readableRec t=true/\t<P.types.size) :
    s.post enc P f apart fresh a false W b (.bool true) u:=by
 have j:=n.lt;have hW':=n;obtain⟨p,q,D,J,rfl,E,F⟩:=n;have r:f.resultTypes.size=1:=(by rw[<-pV,e];rfl);refine⟨l,m,_,[],p,[],hW',?_,?_,?_,?_,λh=>by cases h⟩
 .rw[g,e,r];refine trodAll_mk1 ⟨1,?_⟩;simp[DataW.trod,o,Value.cells]
 .rw[g];exact H' A C D (λx i=>x1m w (j x (zT _ i))) (λx i=>by simpa using j x (zT _ i))
 .rw[g,y];exact rfl
 .exact x1n w _
end Go.Ix
