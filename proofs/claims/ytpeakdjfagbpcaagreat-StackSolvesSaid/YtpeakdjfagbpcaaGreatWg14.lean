import Derived.Test.YtpeakdjfagbpcaaGreatWg13
set_option linter.unusedSimpArgs false
set_option linter.unusedVariables false
namespace Go.Ix
structure Stp where
 fr:Int
 to:Int
 ed:Int
 sg:Int
 gain:Int
 room:Int
def s00:Stp:=⟨0,0,0,0,0,0⟩
def stpAt(S:List Stp)(i:Nat):Stp:=S.getD i s00
theorem stpAt_lt{S:List Stp}{i:Nat}(h:i<S.length):stpAt S i=S[i]:=by
 unfold stpAt;rw[List.getD_eq_getElem?_getD,List.getElem?_eq_getElem h];rfl
structure SOK (J:Int) (n:Nat) (S:List Stp):Prop where
 ok:∀i,i<S.length->(0<=(stpAt S i).fr/\(stpAt S i).fr<n)/\(0<=(stpAt S i).to/\(stpAt S i).to<n)/\(stpAt S i).fr≠(stpAt S i).to/\(-J<=(stpAt S i).gain/\(stpAt S i).gain<=J)
structure BF where
 far:List Int
 by':List Int
 last:Int
def sT(len r i j:Nat):Nat:=if j<i then r*len+j+1 else r*len+j+1-len
structure BFI (J:Int) (n:Nat) (S:List Stp) (r i:Nat) (b:BF) (ta:Nat->Nat):Prop where
 fl:b.far.length=n
 bl:b.by'.length=n
 le:∀v,ta v<=r*S.length+i
 inj:∀u v,ta u=ta v->0<ta u->u=v
 bnd:∀v,0<=at0 b.far v/\at0 b.far v<=J*(r*S.length+i:Nat)
 bb:∀v,0<=at0 b.by' v/\(at0 b.by' v).toNat<=S.length
 arc:∀j,j<S.length->0<sT S.length r i j->at0 b.far (stpAt S j).fr.toNat+(stpAt S j).gain<=at0 b.far (stpAt S j).to.toNat\/sT S.length r i j<ta (stpAt S j).fr.toNat
 pre:∀v,v<n->0<ta v->(at0 b.by' v).toNat<S.length/\(stpAt S (at0 b.by' v).toNat).to=v /\
  at0 b.far v<=at0 b.far (stpAt S (at0 b.by' v).toNat).fr.toNat+(stpAt S (at0 b.by' v).toNat).gain /\
  (ta v<ta (stpAt S (at0 b.by' v).toNat).fr.toNat->at0 b.far v<at0 b.far (stpAt S (at0 b.by' v).toNat).fr.toNat+(stpAt S (at0 b.by' v).toNat).gain) /\
  (S.length<ta v->ta v<ta (stpAt S (at0 b.by' v).toNat).fr.toNat+S.length)
 la:b.last=-1\/∃v,v<n/\b.last=(v:Nat)/\r*S.length<ta v
def prN(S:List Stp)(by':List Int)(v:Nat):Nat:=(stpAt S (at0 by' v).toNat).fr.toNat
def stB(S:List Stp)(by':List Int)(v:Nat):Stp:=stpAt S (at0 by' v).toNat
theorem least_of{P:Nat->Prop}:∀d,P d->∃d,P d/\∀e,e<d->¬P e:=by
 intro d
 induction d using Nat.strongRecOn with
 |_ d ih=>
  intro h
  by_cases c:∃e,e<d/\P e
  .obtain⟨e,h1,h2⟩:=c
   exact ih e h1 h2
  .exact⟨d,h,fun e he hp=>c ⟨e,he,hp⟩⟩
theorem BFI.step{J:Int}{n:Nat}{S:List Stp}(hS:SOK J n S){r i:Nat}{b:BF}{ta:Nat->Nat}(h:BFI J n S r i b ta){v:Nat}(hv:v<n)(h0:0<ta v) :
 stB S b.by' v∈S/\(stB S b.by' v).to=v/\(stB S b.by' v).fr=(prN S b.by' v:Nat)/\prN S b.by' v≠v/\at0 b.far v<=at0 b.far (prN S b.by' v)+(stB S b.by' v).gain /\
  (ta v<ta (prN S b.by' v)->at0 b.far v<at0 b.far (prN S b.by' v)+(stB S b.by' v).gain):=by
 obtain⟨p1,p2,p3,p4,p5⟩:=h.pre v hv h0
 have hok:=hS.ok _ p1
 refine⟨?_,p2,?_,?_,p3,p4⟩
 .unfold stB;rw[stpAt_lt p1];exact List.getElem_mem p1
 .unfold stB prN;omega
 .unfold prN;omega
open Go.Proofs
theorem netF_in(v:Nat):∀z:List (Edge×Int),(∀x∈z,-20<=x.2/\x.2<=20)->-(40*(z.length:Int))<=netF v z/\netF v z<=40*(z.length:Int)
 |[],_=>by simp[netF]
 |x::r,h=>by
  have ih:=netF_in v r (fun y hy=>h y (List.mem_cons_of_mem _ hy))
  have hx:=h x (List.mem_cons_self ..)
  simp only[netF,List.length_cons]
  split<;>split<;>omega
theorem FlowOK.exb{J:Int}{n:Nat}{l:List Edge}{fl tu ex:List Int}(h:FlowOK n l fl tu ex)(hS:Slim J n l)(v:Nat):-680<=at0 ex v/\at0 ex v<=680:=by
 by_cases hv:v<n
 .rw[h.net v hv]
  have:=netF_in v (l.zip fl) (fun x hx=>by
   obtain⟨k,hk,rfl⟩:=(mem_zipE h.fll).mp hx
   have h1:=h.cap k hk
   have h2:=hS.jw (edgeAt l k) (by rw[x2lk hk];exact List.getElem_mem hk)
   simp only
   omega)
  have hl:=hS.ll
  have:(l.zip fl).length<=17:=by rw[List.length_zip];omega
  omega
 .have:at0 ex v=0:=by
   unfold at0
   rw[List.getD_eq_getElem?_getD,List.getElem?_eq_none (by rw[h.exl];omega)];rfl
  omega
theorem FlowOK.flb{n:Nat}{l:List Edge}{fl tu ex:List Int}(h:FlowOK n l fl tu ex)(k:Nat):-1000<=at0 fl k/\at0 fl k<=1000:=by
 by_cases hk:k<l.length
 .have:=h.cap k hk
  obtain⟨⟨_,_,_,_,_,_,w0,w1⟩,_⟩:=edge_in h.ed hk
  omega
 .have:at0 fl k=0:=by
   unfold at0
   rw[List.getD_eq_getElem?_getD,List.getElem?_eq_none (by rw[h.fll];omega)];rfl
  omega
def PBound(J P:Int)(n:Nat)(ex:List Int):Prop:=0<=P/\P<=(J*12)*(1000-posS n ex)
theorem PBound.le{J P:Int}{n:Nat}{ex:List Int}(h:PBound J P n ex)(h0:0<=J):P<=J*12000:=by
 have h1:=x2sv n ex
 have h2:(J*12)*(1000-posS n ex)<=(J*12)*1000:=Int.mul_le_mul_of_nonneg_left (by omega) (by omega)
 have:=h.2
 have e:J*12*1000=J*12000:=by rw[Int.mul_assoc];rfl
 omega
theorem PBound.push{J P P' amt:Int}{n:Nat}{ex ex':List Int}(h:PBound J P n ex)(h0:0<=J)(h1:P<=P')(h2:P'<=P+J*12)(h3:posS n ex'+amt=posS n ex)(h4:0<amt):PBound J P' n ex':=by
 refine⟨by have:=h.1;omega,?_⟩
 have h5:(J*12)*(1000-posS n ex+1)<=(J*12)*(1000-posS n ex'):=Int.mul_le_mul_of_nonneg_left (by omega) (by omega)
 rw[Int.mul_add,Int.mul_one]at h5
 have:=h.2
 omega
end Go.Ix
