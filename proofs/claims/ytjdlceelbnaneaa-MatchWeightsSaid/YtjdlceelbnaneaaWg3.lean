import Derived.Test.YtjdlceelbnaneaaWg2
set_option linter.unusedSimpArgs false
set_option linter.unusedVariables false
namespace Go.Ix
open Go.Proofs
structure Pq where
 a:Int
 b:Int
def Pq.c(p:Pq):List AV:=[I p.a,I p.b]
theorem Pq.len(p:Pq):p.c.length=2:=rfl
theorem Pq.still(p:Pq):p.c.all still1=true:=rfl
def Pq.same(p q:Pq):Bool:=decide (p.a=q.a)&&decide (p.b=q.b)
structure Sp where
 p:Int
 s:Int
def Sp.c(x:Sp):List AV:=[I x.p,I x.s]
theorem Sp.len(x:Sp):x.c.length=2:=rfl
theorem Sp.still(x:Sp):x.c.all still1=true:=rfl
def prAt(P:List Pq)(i:Int):Pq:=P.getD i.toNat ⟨0,0⟩
def frS(P:List Pq)(x:Sp):Int:=if x.s<0 then(prAt P x.p).b else(prAt P x.p).a
def toS(P:List Pq)(x:Sp):Int:=if x.s<0 then(prAt P x.p).a else(prAt P x.p).b
def Wk(P:List Pq):List Sp->Int->Int->Prop
 |[],a,b=>a=b
 |x::r,a,b=>frS P x=a/\Wk P r (toS P x) b
variable{P:List Pq}{F:List Int}
theorem Wk.app:∀{v w:List Sp} {a b c:Int},Wk P v a b->Wk P w b c->Wk P (v++w) a c
 |[],_,_,_,_,h,h2=>by cases h;exact h2
 |x::r,_,_,_,_,h,h2=>⟨h.1,h.2.app h2⟩
theorem Wk.split:∀{v w:List Sp} {a c:Int},Wk P (v++w) a c->∃b,Wk P v a b/\Wk P w b c
 |[],_,a,_,h=>⟨a,rfl,h⟩
 |x::r,_,_,_,h=>by
  obtain⟨b,h1,h2⟩:=Wk.split (v:=r) h.2
  exact⟨b,⟨h.1,h1⟩,h2⟩
def InF(F:List Int)(x:Sp):Prop:=x.p∈F/\(x.s=1\/x.s=-1)
def AllF(F:List Int)(w:List Sp):Prop:=∀x∈w,InF F x
theorem AllF.head{x:Sp}{r:List Sp}(h:AllF F (x::r)):InF F x:=h x (xao ..)
theorem AllF.app{v w:List Sp}(h:AllF F v)(h2:AllF F w):AllF F (v++w):=λy hy=>by
 rcases xbz.mp hy with hy|hy
 .exact h y hy
 .exact h2 y hy
end Go.Ix
