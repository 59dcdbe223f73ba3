import Derived.Test.YtpeakdjfagbpcaaGreatWg9
import Derived.Test.YtpeakdjfagbpcaaGreatWg3
set_option linter.unusedSimpArgs false
set_option linter.unusedVariables false
namespace Go.Ix
open Go.Proofs
def CI(m:Mem)(u:Nat)(a:AV)(l:List Int):Prop:=(l=[]/\a=.slit [] 0 true)\/(l≠[]/\a=.sref (u,3,5) 0 0 l.length 1 true/\Ow intE m (u,3,5) l)
theorem CI.one{m:Mem}{u:Nat}{a:AV}{l:List Int}(h:CI m u a l):a.cells=[a]/\a.one=true/\still1 a=still1 a:=by
 rcases h with ⟨-,rfl⟩|⟨-,rfl,-⟩<;>exact⟨rfl,rfl,rfl⟩
theorem CI.fr{m m':Mem}{u:Nat}{a:AV}{l:List Int}(h:CI m u a l)(e:m'.get (u,3,5)=m.get (u,3,5)):CI m' u a l:=by
 rcases h with h|⟨h0,h1,h2⟩
 .exact .inl h
 .exact .inr ⟨h0,h1,h2.fr e⟩
theorem CI.frz{m:Mem}{u:Nat}{a:AV}{l:List Int}(h:CI m u a l)(k:Nat):∃a',Ints a' l/\Go.Ix.frz m.get (k+2) a=some a':=by
 rcases h with ⟨rfl,rfl⟩|⟨-,rfl,h⟩
 .exact⟨.slit [] 0 true,Sl.lit [] true,rfl⟩
 .exact⟨_,Sl.lit l false,xzb (k:=k) xvu x10z h⟩
structure Ar where
 edge:Int
 to:Int
 sign:Int
 room:Int
 cost:Int
def Ar.c(a:Ar):List AV:=[I a.edge,I a.to,I a.sign,I a.room,I a.cost]
theorem Ar.len(a:Ar):a.c.length=5:=rfl
def e00:Edge:=⟨0,0,0,0⟩
def edgeAt(l:List Edge)(i:Nat):Edge:=l.getD i e00
theorem x129{l:List Edge}{i:Nat}(h:i<l.length):edgeAt l i=l[i]:=by
 unfold edgeAt;rw[List.getD_eq_getElem?_getD,List.getElem?_eq_getElem h];rfl
def adjI(l:List Edge)(v:Int):List Int:=((List.range l.length).filter fun i=>decide ((edgeAt l i).fr=v)||decide ((edgeAt l i).to=v)).map Int.ofNat
structure FrzS (S:AV) (n:Nat) (l:List Edge) (fl tu ex:List Int):Prop where
 sh:∃ev F TU X cells b,S=.plit [I n,ev,F,TU,X,.slit cells n b]/\Sl Edge.c ev l/\Ints F fl/\Ints TU tu/\Ints X ex/\cells.length=n/\∀(v:Nat) (hv:v<cells.length),Ints cells[v] (adjI l v)
 fll:fl.length=l.length
 tul:tu.length=n
 exl:ex.length=n
 n0:n<=200
 ll:l.length<=600
 ed:∀e∈l,EdgeIn n e/\e.fr≠e.to
 flb:∀k,-1000<=at0 fl k/\at0 fl k<=1000
 tub:∀k,-1000000<=at0 tu k/\at0 tu k<=1000000
end Go.Ix
set_option maxRecDepth 100000
namespace Go.Ix
open Go.Proofs
structure Tour where
 len:List Int
 last:List Ar
 bef:List Int
theorem Ar.one(a:Ar):a.c.all AV.one=true:=rfl
theorem Ar.sc(a:Ar):a.c.all isSc=true:=rfl
structure WInv (u sL:Nat) (S:AV) (n:Nat) (t:Tour) (m:Mem):Prop where
 s:m.get (u,0,2)=some (.row [S] 0 false)
 t4:m.get (u,1,4)=some (.row [nilS,nilS,nilS] 0 false)
 t5:m.get (u,25,5)=some (.row [.sref (u+1,sL,30) 0 0 n 1 true,.sref (u,16,26) 0 0 n 5 true,.sref (u,23,33) 0 0 n 1 true] 0 false)
 len:m.get (u+1,sL,30)=some (.row (t.len.flatMap intE) 0 false)
 last:m.get (u,16,26)=some (.row (t.last.flatMap Ar.c) 0 false)
 bef:m.get (u,23,33)=some (.row (t.bef.flatMap intE) 0 false)
 ll:t.len.length=n
 al:t.last.length=n
 bl:t.bef.length=n
 nx:u+1<m.next
theorem WInv.frame{u sL:Nat}{S:AV}{n:Nat}{t:Tour}{m m':Mem}(h:WInv u sL S n t m)(hm:∀id:Id,id.1<=u+1->id.2.2≠7->id.2.2≠41->m'.get id=m.get id)(hn:m.next<=m'.next):WInv u sL S n t m':=by
 obtain⟨a,b,c,d,e,f,g,i,j,k⟩:=h
 refine⟨?_,?_,?_,?_,?_,?_,g,i,j,by omega⟩<;>rw[hm _ (by simp) (by simp) (by simp)]<;>assumption
end Go.Ix
