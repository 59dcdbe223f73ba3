import Derived.Test.YtacloojepepcfaaGreatDoorWg9
set_option linter.unusedSimpArgs false
set_option linter.unusedVariables false
namespace Go.Ix
structure Stp where
 fr:Int
 to:Int
 ed:Int
 sg:Int
 gain:Int
 room:Int
def s00:Stp:=⟨0,0,0,0,0,0⟩
def stpAt(S:List Stp)(i:Nat):Stp:=S.getD i s00
theorem stpAt_lt{S:List Stp}{i:Nat}(h:i<S.length):stpAt S i=S[i]:=by
 unfold stpAt;rw[x18r,x18d h];rfl
structure SOK (J:Int) (n:Nat) (S:List Stp):Prop where
 ok:∀i,i<S.length->(0<=(stpAt S i).fr/\(stpAt S i).fr<n)/\(0<=(stpAt S i).to/\(stpAt S i).to<n)/\(stpAt S i).fr≠(stpAt S i).to/\(-J<=(stpAt S i).gain/\(stpAt S i).gain<=J)
structure BF where
 far:List Int
 by':List Int
 last:Int
def sT(len r i j:Nat):Nat:=if j<i then r*len+j+1 else r*len+j+1-len
structure BFI (J:Int) (n:Nat) (S:List Stp) (r i:Nat) (b:BF) (ta:Nat->Nat):Prop where
 fl:b.far.length=n
 bl:b.by'.length=n
 le:∀v,ta v<=r*S.length+i
 inj:∀u v,ta u=ta v->0<ta u->u=v
 bnd:∀v,0<=at0 b.far v/\at0 b.far v<=J*(r*S.length+i:Nat)
 bb:∀v,0<=at0 b.by' v/\(at0 b.by' v).toNat<=S.length
 arc:∀j,j<S.length->0<sT S.length r i j->at0 b.far (stpAt S j).fr.toNat+(stpAt S j).gain<=at0 b.far (stpAt S j).to.toNat\/sT S.length r i j<ta (stpAt S j).fr.toNat
 pre:∀v,v<n->0<ta v->(at0 b.by' v).toNat<S.length/\(stpAt S (at0 b.by' v).toNat).to=v /\
  at0 b.far v<=at0 b.far (stpAt S (at0 b.by' v).toNat).fr.toNat+(stpAt S (at0 b.by' v).toNat).gain /\
  (ta v<ta (stpAt S (at0 b.by' v).toNat).fr.toNat->at0 b.far v<at0 b.far (stpAt S (at0 b.by' v).toNat).fr.toNat+(stpAt S (at0 b.by' v).toNat).gain) /\
  (S.length<ta v->ta v<ta (stpAt S (at0 b.by' v).toNat).fr.toNat+S.length)
 la:b.last=-1\/∃v,v<n/\b.last=(v:Nat)/\r*S.length<ta v
def prN(S:List Stp)(by':List Int)(v:Nat):Nat:=(stpAt S (at0 by' v).toNat).fr.toNat
def stB(S:List Stp)(by':List Int)(v:Nat):Stp:=stpAt S (at0 by' v).toNat
theorem x12c{P:Nat->Prop}:∀d,P d->∃d,P d/\∀e,e<d->¬P e:=by
 intro d
 induction d using Nat.strongRecOn with
 |_ d ih=>
  intro h
  by_cases c:∃e,e<d/\P e
  .obtain⟨e,h1,h2⟩:=c
   exact ih e h1 h2
  .exact⟨d,h,λe he hp=>c ⟨e,he,hp⟩⟩
theorem BFI.step{J:Int}{n:Nat}{S:List Stp}(hS:SOK J n S){r i:Nat}{b:BF}{ta:Nat->Nat}(h:BFI J n S r i b ta){v:Nat}(hv:v<n)(h0:0<ta v) :
 stB S b.by' v∈S/\(stB S b.by' v).to=v/\(stB S b.by' v).fr=(prN S b.by' v:Nat)/\prN S b.by' v≠v/\at0 b.far v<=at0 b.far (prN S b.by' v)+(stB S b.by' v).gain /\
  (ta v<ta (prN S b.by' v)->at0 b.far v<at0 b.far (prN S b.by' v)+(stB S b.by' v).gain):=by
 obtain⟨p1,p2,p3,p4,p5⟩:=h.pre v hv h0
 have hok:=hS.ok _ p1
 refine⟨?_,p2,?_,?_,p3,p4⟩
 .unfold stB;rw[stpAt_lt p1];exact x194 p1
 .unfold stB prN;omega
 .unfold prN;omega
end Go.Ix
