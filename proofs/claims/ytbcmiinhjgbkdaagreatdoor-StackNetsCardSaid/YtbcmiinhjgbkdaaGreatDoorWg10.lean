import Derived.Test.YtbcmiinhjgbkdaaGreatDoorWg9
set_option linter.unusedSimpArgs false
set_option linter.unusedVariables false
namespace Go.Ix
def sumN:Nat->(Nat->Int)->Int
 |0,_=>0
 |n+1,g=>sumN n g+g n
def netF(v:Nat):List (Edge×Int)->Int
 |[]=>0
 |x::r=>(if x.1.to.toNat=v then x.2 else 0)-(if x.1.fr.toNat=v then x.2 else 0)+netF v r
def Ends(n:Nat)(z:List (Edge×Int)):Prop:=∀x∈z,x.1.fr.toNat<n/\x.1.to.toNat<n
def Arc(z:List (Edge×Int))(u v:Nat)(c:Int):Prop:=∃x∈z,(x.2<x.1.wt/\u=x.1.fr.toNat/\v=x.1.to.toNat/\c=-x.1.jump)\/(-x.1.wt<x.2/\u=x.1.to.toNat/\v=x.1.fr.toNat/\c=x.1.jump)
inductive Way (z:List (Edge×Int)) (u:Nat):Nat->Int->Prop
 |nil:Way z u u 0
 |cons {v w:Nat} {c d:Int}:Way z u v c->Arc z v w d->Way z u w (c+d)
theorem Arc.lt{n:Nat}{z:List (Edge×Int)}(h:Ends n z){u v:Nat}{c:Int}(ha:Arc z u v c):u<n/\v<n:=by
 obtain⟨x,hx,⟨h1,rfl,rfl,rfl⟩|⟨h1,rfl,rfl,rfl⟩⟩:=ha
 .exact h x hx
 .exact⟨(h x hx).2,(h x hx).1⟩
theorem Way.lt{n:Nat}{z:List (Edge×Int)}(h:Ends n z){u v:Nat}{c:Int}(hu:u<n)(hw:Way z u v c):v<n:=by
 cases hw with
 |nil=>exact hu
 |cons _ ha=>exact(ha.lt h).2
structure FlowOK (n:Nat) (l:List Edge) (fl tu ex:List Int):Prop where
 nn:n<=200
 ll:l.length<=600
 ed:∀e∈l,EdgeIn n e/\e.fr≠e.to
 fll:fl.length=l.length
 tul:tu.length=n
 exl:ex.length=n
 cap:∀k,k<l.length->-(edgeAt l k).wt<=at0 fl k/\at0 fl k<=(edgeAt l k).wt
 cs:∀k,k<l.length->(at0 fl k<(edgeAt l k).wt->exI tu (edgeAt l k)<=0)/\(-(edgeAt l k).wt<at0 fl k->0<=exI tu (edgeAt l k))
 net:∀v,v<n->at0 ex v=netF v (l.zip fl)
theorem edge_in{n:Nat}{l:List Edge}(hed:∀e∈l,EdgeIn n e/\e.fr≠e.to){k:Nat}(hk:k<l.length):EdgeIn n (edgeAt l k)/\(edgeAt l k).fr≠(edgeAt l k).to:=by
 rw[x19a hk];exact hed _ (x1nc hk)
theorem mem_zipE{l:List Edge}{fl:List Int}(hl:fl.length=l.length){x:Edge×Int}:x∈l.zip fl↔∃k,k<l.length/\x=(edgeAt l k,at0 fl k):=by
 constructor
 .intro h
  obtain⟨k,hk,rfl⟩:=List.mem_iff_getElem.mp h
  have h1:k<l.length:=by simp at hk;omega
  refine⟨k,h1,?_⟩
  rw[List.getElem_zip,x19a h1,at0_lt (by omega)]
 .rintro⟨k,hk,rfl⟩
  rw[x19a hk,at0_lt (by omega)]
  have:k<(l.zip fl).length:=by simp;omega
  rw[<-List.getElem_zip (h:=this)]
  exact x1nc this
end Go.Ix
