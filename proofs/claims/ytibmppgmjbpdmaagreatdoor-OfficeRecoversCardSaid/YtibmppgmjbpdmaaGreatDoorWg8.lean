import Derived.Test.YtibmppgmjbpdmaaGreatDoorWg7
set_option linter.unusedSimpArgs false
set_option linter.unusedVariables false
namespace Go.Ix
structure FlowOK (n:Nat) (l:List Edge) (fl tu ex:List Int):Prop where
 nn:n<=200
 ll:l.length<=600
 ed:∀e∈l,EdgeIn n e/\e.fr≠e.to
 fll:fl.length=l.length
 tul:tu.length=n
 exl:ex.length=n
 cap:∀k,k<l.length->-(edgeAt l k).wt<=at0 fl k/\at0 fl k<=(edgeAt l k).wt
 cs:∀k,k<l.length->(at0 fl k<(edgeAt l k).wt->exI tu (edgeAt l k)<=0)/\(-(edgeAt l k).wt<at0 fl k->0<=exI tu (edgeAt l k))
 net:∀v,v<n->at0 ex v=netF v (l.zip fl)
theorem edge_in{n:Nat}{l:List Edge}(hed:∀e∈l,EdgeIn n e/\e.fr≠e.to){k:Nat}(hk:k<l.length):EdgeIn n (edgeAt l k)/\(edgeAt l k).fr≠(edgeAt l k).to:=by
 rw[x1c5 hk];exact hed _ (x1qb hk)
theorem mem_zipE{l:List Edge}{fl:List Int}(hl:fl.length=l.length){x:Edge×Int}:x∈l.zip fl↔∃k,k<l.length/\x=(edgeAt l k,at0 fl k):=by
 constructor
 .intro h
  obtain⟨k,hk,rfl⟩:=List.mem_iff_getElem.mp h
  have h1:k<l.length:=by simp at hk;omega
  refine⟨k,h1,?_⟩
  rw[List.getElem_zip,x1c5 h1,at0_lt (by omega)]
 .rintro⟨k,hk,rfl⟩
  rw[x1c5 hk,at0_lt (by omega)]
  have:k<(l.zip fl).length:=by simp;omega
  rw[<-List.getElem_zip (h:=this)]
  exact x1qb this
end Go.Ix
