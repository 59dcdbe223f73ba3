import Derived.Test.YtpeakdjfagbpcaaGreatWg12
set_option linter.unusedSimpArgs false
set_option linter.unusedVariables false
namespace Go.Ix
def prN(S:List Stp)(by':List Int)(v:Nat):Nat:=(stpAt S (at0 by' v).toNat).fr.toNat
def stB(S:List Stp)(by':List Int)(v:Nat):Stp:=stpAt S (at0 by' v).toNat
theorem least_of{P:Nat->Prop}:∀d,P d->∃d,P d/\∀e,e<d->¬P e:=by
 intro d
 induction d using Nat.strongRecOn with
 |_ d ih=>
  intro h
  by_cases c:∃e,e<d/\P e
  .obtain⟨e,h1,h2⟩:=c
   exact ih e h1 h2
  .exact⟨d,h,fun e he hp=>c ⟨e,he,hp⟩⟩
theorem BFI.step{J:Int}{n:Nat}{S:List Stp}(hS:SOK J n S){r i:Nat}{b:BF}{ta:Nat->Nat}(h:BFI J n S r i b ta){v:Nat}(hv:v<n)(h0:0<ta v) :
 stB S b.by' v∈S/\(stB S b.by' v).to=v/\(stB S b.by' v).fr=(prN S b.by' v:Nat)/\prN S b.by' v≠v/\at0 b.far v<=at0 b.far (prN S b.by' v)+(stB S b.by' v).gain /\
  (ta v<ta (prN S b.by' v)->at0 b.far v<at0 b.far (prN S b.by' v)+(stB S b.by' v).gain):=by
 obtain⟨p1,p2,p3,p4,p5⟩:=h.pre v hv h0
 have hok:=hS.ok _ p1
 refine⟨?_,p2,?_,?_,p3,p4⟩
 .unfold stB;rw[stpAt_lt p1];exact List.getElem_mem p1
 .unfold stB prN;omega
 .unfold prN;omega
open Go.Proofs
theorem netF_in(v:Nat):∀z:List (Edge×Int),(∀x∈z,-20<=x.2/\x.2<=20)->-(40*(z.length:Int))<=netF v z/\netF v z<=40*(z.length:Int)
 |[],_=>by simp[netF]
 |x::r,h=>by
  have ih:=netF_in v r (fun y hy=>h y (List.mem_cons_of_mem _ hy))
  have hx:=h x (List.mem_cons_self ..)
  simp only[netF,List.length_cons]
  split<;>split<;>omega
theorem FlowOK.exb{J:Int}{n:Nat}{l:List Edge}{fl tu ex:List Int}(h:FlowOK n l fl tu ex)(hS:Slim J n l)(v:Nat):-680<=at0 ex v/\at0 ex v<=680:=by
 by_cases hv:v<n
 .rw[h.net v hv]
  have:=netF_in v (l.zip fl) (fun x hx=>by
   obtain⟨k,hk,rfl⟩:=(mem_zipE h.fll).mp hx
   have h1:=h.cap k hk
   have h2:=hS.jw (edgeAt l k) (by rw[x2oe hk];exact List.getElem_mem hk)
   simp only
   omega)
  have hl:=hS.ll
  have:(l.zip fl).length<=17:=by rw[List.length_zip];omega
  omega
 .have:at0 ex v=0:=by
   unfold at0
   rw[List.getD_eq_getElem?_getD,List.getElem?_eq_none (by rw[h.exl];omega)];rfl
  omega
theorem FlowOK.flb{n:Nat}{l:List Edge}{fl tu ex:List Int}(h:FlowOK n l fl tu ex)(k:Nat):-1000<=at0 fl k/\at0 fl k<=1000:=by
 by_cases hk:k<l.length
 .have:=h.cap k hk
  obtain⟨⟨_,_,_,_,_,_,w0,w1⟩,_⟩:=edge_in h.ed hk
  omega
 .have:at0 fl k=0:=by
   unfold at0
   rw[List.getD_eq_getElem?_getD,List.getElem?_eq_none (by rw[h.fll];omega)];rfl
  omega
def PBound(J P:Int)(n:Nat)(ex:List Int):Prop:=0<=P/\P<=(J*12)*(1000-posS n ex)
theorem PBound.le{J P:Int}{n:Nat}{ex:List Int}(h:PBound J P n ex)(h0:0<=J):P<=J*12000:=by
 have h1:=x2v2 n ex
 have h2:(J*12)*(1000-posS n ex)<=(J*12)*1000:=Int.mul_le_mul_of_nonneg_left (by omega) (by omega)
 have:=h.2
 have e:J*12*1000=J*12000:=by rw[Int.mul_assoc];rfl
 omega
theorem PBound.push{J P P' amt:Int}{n:Nat}{ex ex':List Int}(h:PBound J P n ex)(h0:0<=J)(h1:P<=P')(h2:P'<=P+J*12)(h3:posS n ex'+amt=posS n ex)(h4:0<amt):PBound J P' n ex':=by
 refine⟨by have:=h.1;omega,?_⟩
 have h5:(J*12)*(1000-posS n ex+1)<=(J*12)*(1000-posS n ex'):=Int.mul_le_mul_of_nonneg_left (by omega) (by omega)
 rw[Int.mul_add,Int.mul_one]at h5
 have:=h.2
 omega
def QRep(w:Nat)(m:Mem)(a:AV)(q:List Int):Prop:=
 a=.slit (q.flatMap intE) q.length true\/∃id ver off cs,w<=id.1/\a=.sref id ver off q.length 1 true/\m.get id=some (.row cs ver false)/\cs.drop off=q.flatMap intE/\off+q.length=cs.length
theorem QRep.frame{w:Nat}{m m':Mem}{a:AV}{q:List Int}(h:QRep w m a q)(hm:∀id:Id,w<=id.1->m'.get id=m.get id):QRep w m' a q:=by
 rcases h with h|⟨id,ver,off,cs,h1,h2,h3,h4⟩
 .exact Or.inl h
 .exact Or.inr ⟨id,ver,off,cs,h1,h2,by rw[hm id h1];exact h3,h4⟩
theorem QRep.one{w:Nat}{m:Mem}{a:AV}{q:List Int}(h:QRep w m a q):a.cells=[a]/\a.one=true:=by
 rcases h with rfl|⟨id,ver,off,cs,h1,rfl,h3,h4⟩<;>exact⟨rfl,rfl⟩
theorem QRep.len{w:Nat}{m:Mem}{a:AV}{q:List Int}(h:QRep w m a q):sLen Tryz.prog x2 a=some (I q.length):=by
 rcases h with rfl|⟨id,ver,off,cs,h1,rfl,h3,h4⟩<;>rfl
theorem QRep.head{w:Nat}{m:Mem}{a:AV}{x:Int}{q:List Int}(h:QRep w m a (x::q)):∃p,sIx 1 a (I 0)=some p/\sLd false 1 p m=some (I x):=by
 rcases h with rfl|⟨id,ver,off,cs,h1,rfl,h3,h4,h5⟩
 .refine⟨.plit ((x::q).flatMap intE),?_,rfl⟩
  have:=(Sl.lit (x::q) true (enc:=intE)).ixI x2hc (k:=0) (by omega) (by simp)
  simpa using this
 .refine⟨.ptr id ver off,by simp[sIx,asI],?_⟩
  rw[x2nt,h3]
  simp only[x2md,Nat.beq_refl,cond_true]
  rw[h4];rfl
theorem QRep.app{w:Nat}{m:Mem}{a:AV}{q:List Int}(h:QRep w m a q)(hq:q.length<=100000){id0:Id}(h0:w<=id0.1)(x:Int) :
 ∃a' m',(∀{R:Type} (k:AV->Mem->Option R),sApp 1 8 id0 (some (intE x,1)) a m k=k a' m')/\QRep w m' a' (q++[x])/\m'.next=m.next/\∀id:Id,id.1<w->m'.get id=m.get id:=by
 have hro:∀k,k<=100001->x2ge k 8:=fun k hk=>by unfold x2ge;omega
 have hl:=x2l7 q
 rcases h with rfl|⟨id,ver,off,cs,h1,rfl,h3,h4,h5⟩
 .refine⟨.sref id0 0 0 (q.length+1) 1 true,m.new id0 (.row (q.flatMap intE++intE x) 0 false),fun k=>?_,Or.inr ⟨id0,0,0,q.flatMap intE++intE x,h0,by simp,by simp,by simp,by simp[hl,intE]⟩,rfl,fun j hj=>?_⟩
  .simp only[sApp]
   rw[if_pos (by omega),if_neg (by omega),if_pos (hro _ (by omega)),Nat.mul_one,List.take_of_length_le (by omega)]
  .rw[Mem.get_new,if_neg (by rintro rfl;omega)]
 .refine⟨.sref id (ver+1) 0 (q.length+1) 1 true,m.set id (.row (q.flatMap intE++intE x) (ver+1) false),fun k=>?_,Or.inr ⟨id,ver+1,0,q.flatMap intE++intE x,h1,by simp,by simp,by simp,by simp[hl,intE]⟩,rfl,fun j hj=>?_⟩
  .simp only[sApp,h3]
   rw[if_pos ⟨trivial,trivial,by omega,hro _ (by omega)⟩,if_neg (by omega),if_neg (by omega),h4,List.take_of_length_le (by omega)]
  .rw[Mem.get_set,if_neg (by rintro rfl;omega)]
theorem QRep.tA{w:Nat}{m:Mem}{a:AV}{q:List Int}(h:QRep w m a q){id0:Id}(h0:w<=id0.1):∃id,Go.Ix.tA id0 a=some [id]/\w<=id.1:=by
 rcases h with rfl|⟨id,ver,off,cs,h1,rfl,h3,h4,h5⟩
 .exact⟨id0,rfl,h0⟩
 .exact⟨id,rfl,h1⟩
end Go.Ix
