import Derived.Test.YtibmppgmjbpdmaaGreatDoorWg4
import Derived.Test.YtibmppgmjbpdmaaGreatDoorWg8
import Derived.Test.YtibmppgmjbpdmaaGreatDoorWg1
import Derived.ProofKit
import Derived.Test.YtibmppgmjbpdmaaGreatDoorWg6
import Derived.Test.YtibmppgmjbpdmaaGreatDoorWg2
import Derived.Test.YtibmppgmjbpdmaaGreatDoorWg12
import Derived.Test.YtibmppgmjbpdmaaGreatDoorWg11
import Derived.Test.YtibmppgmjbpdmaaGreatDoorWg14
set_option linter.unusedSimpArgs false
namespace Go.Ix
open Go.Proofs
theorem at0_app{l:List Int}{x:Int}{k:Nat}:at0 (l++[x]) k=if k<l.length then at0 l k else if k=l.length then x else 0:=by
 unfold at0
 simp only[x1ss]
 by_cases h:k<l.length
 .rw[x1rq h,x1tt h]
 .rw[x1rr h,x1tu (by omega)]
  by_cases h2:k=l.length
  .rw[x1rq h2,h2];simp
  .rw[x1rr h2,x1uk (by simp;omega)];rfl
def OutIn(k:Int)(out:List Int):Prop:=∀i,-(2048*k)<=at0 out i/\at0 out i<=2048*k
theorem OutIn.app{k:Nat}{out:List Int}(h:OutIn k out){x:Int}(h1:-(2048*((k+1:Nat):Int))<=x)(h2:x<=2048*((k+1:Nat):Int)):OutIn ((k+1:Nat):Int) (out++[x]):=by
 intro i
 rw[at0_app]
 have:=h i
 split
 .omega
 .split<;>omega
end Go.Ix
set_option linter.unusedVariables false
namespace Go.Ix
open Go.Proofs
def Edge.same(a b:Edge):Bool:=decide (a.fr=b.fr)&&(decide (a.to=b.to)&&(decide (a.jump=b.jump)&&decide (a.wt=b.wt)))
theorem Edge.still1(e:Edge):e.c.all Go.Ix.still1=true:=rfl
end Go.Ix
set_option maxRecDepth 10000
namespace Go.Ix
open Go.Proofs
def GkL{α:Type}(z:Nat)(enc:α->List AV)(ok:Id->Prop)(m:Mem)(a:AV)(l:List α):Prop:=
 a=.slit (l.flatMap enc) l.length true\/∃id ver,ok id/\a=.sref id ver 0 l.length z true/\m.get id=some (.row (l.flatMap enc) ver false)
theorem GkL.frame{α:Type}{z:Nat}{enc:α->List AV}{a:AV}{l:List α}{ok:Id->Prop}{m m':Mem}(h:GkL z enc ok m a l)(hm:∀id,ok id->m'.get id=m.get id):GkL z enc ok m' a l:=by
 rcases h with h|⟨id,ver,h0,h1,h2⟩
 .exact Or.inl h
 .exact Or.inr ⟨id,ver,h0,h1,by rw[hm _ h0];exact h2⟩
theorem GkL.app{α:Type}{z:Nat}{enc:α->List AV}{a:AV}{l:List α}(hz:∀x,(enc x).length=z)(h0:0<z){bytes:Nat}{ok:Id->Prop}{id0:Id}{m:Mem}(ht:ok id0)(hr:x17k (l.length+1) bytes)(h:GkL z enc ok m a l)(x:α) :
 ∃a' m',(∀{R:Type} (k:AV->Mem->Option R),sApp z bytes id0 (some (enc x,1)) a m k=k a' m')/\GkL z enc ok m' a' (l++[x])/\m'.next=m.next/\∀j:Id,¬ok j->m'.get j=m.get j:=by
 have hl:=x19k hz l
 rcases h with rfl|⟨id,ver,h1,rfl,hg⟩
 .refine⟨.sref id0 0 0 (l.length+1) z true,m.new id0 (.row (l.flatMap enc++enc x) 0 false),λk=>?_,Or.inr ⟨id0,0,ht,by simp,by simp⟩,rfl,λj hj=>?_⟩
  .simp only[sApp]
   rw[x1rq (by omega),x1rr (by omega),x1rq hr,x1s7 (by omega)]
  .rw[Mem.get_new,x1rr (by rintro rfl;exact hj ht)]
 .refine⟨.sref id (ver+1) 0 (l.length+1) z true,m.set id (.row (l.flatMap enc++enc x) (ver+1) false),λk=>?_,Or.inr ⟨id,ver+1,h1,by simp,by simp⟩,rfl,λj hj=>?_⟩
  .simp only[sApp,hg]
   rw[x1rq ⟨trivial,trivial,by omega,hr⟩,x1rr (by omega),x1rr (by rw[hl,x1tg];omega),x1sg,x1s7 (by omega)]
  .rw[Mem.get_set,x1rr (by rintro rfl;exact hj h1)]
theorem GkL.frz{α:Type}{z:Nat}{enc:α->List AV}{a:AV}{l:List α}(hz:∀x,(enc x).length=z)(hs:∀x,(enc x).all still1=true){ok:Id->Prop}{k:Nat}{m:Mem}(h:GkL z enc ok m a l):∃a',Sl enc a' l/\Go.Ix.frz m.get (k+2) a=some a':=by
 have hl:=x19k hz l
 rcases h with rfl|⟨id,ver,_,rfl,hg⟩
 .have h1:Sl enc (.slit (l.flatMap enc) l.length true) l:=Or.inr ⟨true,rfl⟩
  have h2:still (.slit (l.flatMap enc) l.length true)=true:=by simp[still,x1bb hs l]
  exact⟨_,h1,x1ar m.get k h2⟩
 .refine⟨.slit (l.flatMap enc) l.length false,Sl.lit l false,?_⟩
  have:=x1cj (objs:=m.get) (id:=id) (cs:=l.flatMap enc) (ver:=ver) (off:=0) (n:=l.length) (z:=z) (k:=k) (f:=false) (x:=true) hg (by omega) (by
   rw[x1sg,x1s7 (by omega)];exact x1bb hs l)
  rw[x1sg,x1s7 (by omega)]at this
  exact this
def I64(n:Int):Prop:=-9223372036854775808<=n/\n<=9223372036854775807
def Edge.i64(e:Edge):Prop:=I64 e.fr/\I64 e.to/\I64 e.jump/\I64 e.wt
theorem x1gf:∀(k u:Nat),(digF k u).length<=k
 |0,u=>x1rz _
 |k+1,u=>by
  unfold digF
  split
  .simp
  .have:=x1gf k (u / 10)
   simp;omega
theorem x1gg(n:Int):(decM n).length<=21:=by
 unfold decM
 split
 .have:=x1gf 20 n.natAbs
  simp;omega
 .have:=x1gf 20 n.toNat
  omega
end Go.Ix
