import Derived.Test.YtpeakdjfagbpcaaGreatWg8
import Derived.Test.YtpeakdjfagbpcaaGreatWg6
import Derived.Test.YtpeakdjfagbpcaaGreatWg3
set_option linter.unusedSimpArgs false
set_option linter.unusedVariables false
namespace Go.Ix
open Go.Proofs
def CI(m:Mem)(u:Nat)(a:AV)(l:List Int):Prop:=(l=[]/\a=.slit [] 0 true)\/(l≠[]/\a=.sref (u,3,5) 0 0 l.length 1 true/\Ow intE m (u,3,5) l)
theorem CI.one{m:Mem}{u:Nat}{a:AV}{l:List Int}(h:CI m u a l):a.cells=[a]/\a.one=true/\still1 a=still1 a:=by
 rcases h with ⟨-,rfl⟩|⟨-,rfl,-⟩<;>exact⟨rfl,rfl,rfl⟩
theorem CI.fr{m m':Mem}{u:Nat}{a:AV}{l:List Int}(h:CI m u a l)(e:m'.get (u,3,5)=m.get (u,3,5)):CI m' u a l:=by
 rcases h with h|⟨h0,h1,h2⟩
 .exact .inl h
 .exact .inr ⟨h0,h1,h2.fr e⟩
theorem CI.frz{m:Mem}{u:Nat}{a:AV}{l:List Int}(h:CI m u a l)(k:Nat):∃a',Ints a' l/\Go.Ix.frz m.get (k+2) a=some a':=by
 rcases h with ⟨rfl,rfl⟩|⟨-,rfl,h⟩
 .exact⟨.slit [] 0 true,Sl.lit [] true,rfl⟩
 .exact⟨_,Sl.lit l false,x11e (k:=k) xy2 x128 h⟩
structure Ar where
 edge:Int
 to:Int
 sign:Int
 room:Int
 cost:Int
def Ar.c(a:Ar):List AV:=[I a.edge,I a.to,I a.sign,I a.room,I a.cost]
theorem Ar.len(a:Ar):a.c.length=5:=rfl
def e00:Edge:=⟨0,0,0,0⟩
def edgeAt(l:List Edge)(i:Nat):Edge:=l.getD i e00
theorem x14g{l:List Edge}{i:Nat}(h:i<l.length):edgeAt l i=l[i]:=by
 unfold edgeAt;rw[List.getD_eq_getElem?_getD,List.getElem?_eq_getElem h];rfl
def adjI(l:List Edge)(v:Int):List Int:=((List.range l.length).filter fun i=>decide ((edgeAt l i).fr=v)||decide ((edgeAt l i).to=v)).map Int.ofNat
structure FrzS (S:AV) (n:Nat) (l:List Edge) (fl tu ex:List Int):Prop where
 sh:∃ev F TU X cells b,S=.plit [I n,ev,F,TU,X,.slit cells n b]/\Sl Edge.c ev l/\Ints F fl/\Ints TU tu/\Ints X ex/\cells.length=n/\∀(v:Nat) (hv:v<cells.length),Ints cells[v] (adjI l v)
 fll:fl.length=l.length
 tul:tu.length=n
 exl:ex.length=n
 n0:n<=200
 ll:l.length<=600
 ed:∀e∈l,EdgeIn n e/\e.fr≠e.to
 flb:∀k,-1000<=at0 fl k/\at0 fl k<=1000
 tub:∀k,-1000000<=at0 tu k/\at0 tu k<=1000000
end Go.Ix
