import Derived.Test.YtdfahbenacjgeaaWg13
set_option linter.unusedSimpArgs false
set_option linter.unusedVariables false
namespace Go.Ix
def prN(S:List Stp)(by':List Int)(v:Nat):Nat:=(stpAt S (at0 by' v).toNat).fr.toNat
def stB(S:List Stp)(by':List Int)(v:Nat):Stp:=stpAt S (at0 by' v).toNat
theorem least_of{P:Nat->Prop}:∀d,P d->∃d,P d/\∀e,e<d->¬P e:=by
 intro d;induction d using Nat.strongRecOn with
 |_ d ih=>
  intro h;by_cases c:∃e,e<d/\P e
  .obtain⟨e,h1,h2⟩:=c;exact ih e h1 h2
  .exact⟨d,h,λe he hp=>c ⟨e,he,hp⟩⟩
theorem BFI.step{J:Int}{n:Nat}{S:List Stp}(hS:SOK J n S){r i:Nat}{b:BF}{ta:Nat->Nat}(h:BFI J n S r i b ta){v:Nat}(hv:v<n)(h0:0<ta v) :
 stB S b.by' v∈S/\(stB S b.by' v).to=v/\(stB S b.by' v).fr=(prN S b.by' v:Nat)/\prN S b.by' v≠v/\at0 b.far v<=at0 b.far (prN S b.by' v)+(stB S b.by' v).gain /\
  (ta v<ta (prN S b.by' v)->at0 b.far v<at0 b.far (prN S b.by' v)+(stB S b.by' v).gain):=by
 obtain⟨p1,p2,p3,p4,p5⟩:=h.pre v hv h0;have hok:=hS.ok _ p1;refine⟨?_,p2,?_,?_,p3,p4⟩
 .unfold stB;rw[stpAt_lt p1];exact xcp p1
 .unfold stB prN;omega
 .unfold prN;omega
open Go.Proofs
theorem netF_in(v:Nat):∀z:List (Edge×Int),(∀x∈z,-20<=x.2/\x.2<=20)->-(40*(z.length:Int))<=netF v z/\netF v z<=40*(z.length:Int)
 |[],_=>by simp[netF]
 |x::r,h=>by have ih:=netF_in v r (λy hy=>h y (xc9 _ hy));have hx:=h x (xcf ..);simp only[netF,xco];split<;>split<;>omega
theorem FlowOK.exb{J:Int}{n:Nat}{l:List Edge}{fl tu ex:List Int}(h:FlowOK n l fl tu ex)(hS:Slim J n l)(v:Nat):-680<=at0 ex v/\at0 ex v<=680:=by
 by_cases hv:v<n
 .rw[h.net v hv]
  have:=netF_in v (l.zip fl) (λx hx=>by
   obtain⟨k,hk,rfl⟩:=(mem_zipE h.fll).mp hx
   have h1:=h.cap k hk
   have h2:=hS.jw (edgeAt l k) (by rw[M4 hk];exact xcp hk)
   simp only
   omega)
  have hl:=hS.ll;have:(l.zip fl).length<=17:=(by rw[List.length_zip];omega);omega
 .have:at0 ex v=0:=(by unfold at0;rw[xcg,xef (by rw[h.exl];omega)];rfl);omega
theorem FlowOK.flb{n:Nat}{l:List Edge}{fl tu ex:List Int}(h:FlowOK n l fl tu ex)(k:Nat):-1000<=at0 fl k/\at0 fl k<=1000:=by
 by_cases hk:k<l.length
 .have:=h.cap k hk;obtain⟨⟨_,_,_,_,_,_,w0,w1⟩,_⟩:=edge_in h.ed hk;omega
 .have:at0 fl k=0:=(by unfold at0;rw[xcg,xef (by rw[h.fll];omega)];rfl);omega
def PBound(J P:Int)(n:Nat)(ex:List Int):Prop:=0<=P/\P<=(J*12)*(1000-v8 n ex)
theorem PBound.le{J P:Int}{n:Nat}{ex:List Int}(h:PBound J P n ex)(h0:0<=J):P<=J*12000:=by have h1:=xae n ex;have h2:(J*12)*(1000-v8 n ex)<=(J*12)*1000:=xgs (by omega) (by omega);have:=h.2;have e:J*12*1000=J*12000:=(by rw[Int.mul_assoc];rfl);omega
theorem PBound.push{J P P' amt:Int}{n:Nat}{ex ex':List Int}(h:PBound J P n ex)(h0:0<=J)(h1:P<=P')(h2:P'<=P+J*12)(h3:v8 n ex'+amt=v8 n ex)(h4:0<amt):PBound J P' n ex':=by refine⟨by have:=h.1;omega,?_⟩;have h5:(J*12)*(1000-v8 n ex+1)<=(J*12)*(1000-v8 n ex'):=xgs (by omega) (by omega);rw[Int.mul_add,Int.mul_one]at h5;have:=h.2;omega
theorem xaf{cs:List AV}{n:Nat}{x:Bool}{lo:Int}(h0:0<=lo)(h2:lo<=n)(hl:cs.length=n):xU Try.prog aC (.slit cs n x) (some (I lo)) none=some (.slit (cs.drop lo.toNat) (n-lo.toNat) x):=by obtain⟨i,e1,e2⟩:=x73;simp only[xU,rA,tH,e1,asI,Option.getD_some,Option.getD_none,e2];rw[xc2 ⟨h0,h2,xf3 _,by omega⟩,xel,xel,show((n:Int)-lo).toNat=n-lo.toNat by omega,xca (by simp;omega)];simp
def QRep(w:Nat)(m:Mem)(a:AV)(q:List Int):Prop:=
 a=.slit (q.flatMap intE) q.length true\/∃id ver off cs,w<=id.1/\a=.sref id ver off q.length 1 true/\m.get id=some (.row cs ver false)/\cs.drop off=q.flatMap intE/\off+q.length=cs.length
theorem QRep.frame{w:Nat}{m m':Mem}{a:AV}{q:List Int}(h:QRep w m a q)(hm:∀id:Id,w<=id.1->m'.get id=m.get id):QRep w m' a q:=by
 rcases h with h|⟨id,ver,off,cs,h1,h2,h3,h4⟩
 .exact Or.inl h
 .exact Or.inr ⟨id,ver,off,cs,h1,h2,by rw[hm id h1];exact h3,h4⟩
theorem QRep.one{w:Nat}{m:Mem}{a:AV}{q:List Int}(h:QRep w m a q):a.cells=[a]/\a.one=true:=by rcases h with rfl|⟨id,ver,off,cs,h1,rfl,h3,h4⟩<;>exact⟨rfl,rfl⟩
theorem QRep.len{w:Nat}{m:Mem}{a:AV}{q:List Int}(h:QRep w m a q):qJ Try.prog aC a=some (I q.length):=by rcases h with rfl|⟨id,ver,off,cs,h1,rfl,h3,h4⟩<;>rfl
theorem QRep.head{w:Nat}{m:Mem}{a:AV}{x:Int}{q:List Int}(h:QRep w m a (x::q)):∃p,sIx 1 a (I 0)=some p/\sLd false 1 p m=some (I x):=by
 rcases h with rfl|⟨id,ver,off,cs,h1,rfl,h3,h4,h5⟩
 .refine⟨.plit ((x::q).flatMap intE),?_,rfl⟩;have:=(Sl.lit (x::q) true (enc:=intE)).ixI rX (k:=0) (by omega) (by simp);simpa using this
 .refine⟨.ptr id ver off,by simp[sIx,asI],?_⟩;rw[vJ,h3];simp only[A4,xdi,cond_true];rw[h4];rfl
theorem QRep.tail{w:Nat}{m:Mem}{a:AV}{x:Int}{q:List Int}(h:QRep w m a (x::q)):∃a',xU Try.prog aC a (some (I 1)) none=some a'/\QRep w m a' q:=by
 rcases h with rfl|⟨id,ver,off,cs,h1,rfl,h3,h4,h5⟩
 .refine⟨.slit (q.flatMap intE) q.length true,?_,Or.inl rfl⟩;rw[xaf (by omega) (by rw[xco];omega) (v6 _)];rfl
 .refine⟨.sref id ver (off+1) q.length 1 true,?_,Or.inr ⟨id,ver,off+1,cs,h1,rfl,h3,?_,by simp at h5;omega⟩⟩
  .rw[slice_lo (by omega) (by rw[xco];omega)];rfl
  .rw[<-List.drop_drop,h4];rfl
theorem QRep.app{w:Nat}{m:Mem}{a:AV}{q:List Int}(h:QRep w m a q)(hq:q.length<=100000){id0:Id}(h0:w<=id0.1)(x:Int) :
 ∃a' m',(∀{R:Type} (k:AV->Mem->Option R),rL 1 8 id0 (some (intE x,1)) a m k=k a' m')/\QRep w m' a' (q++[x])/\m'.next=m.next/\∀id:Id,id.1<w->m'.get id=m.get id:=by
 have hro:∀k,k<=100001->qW k 8:=λk hk=>by unfold qW;omega
 have hl:=v6 q;rcases h with rfl|⟨id,ver,off,cs,h1,rfl,h3,h4,h5⟩
 .refine⟨.sref id0 0 0 (q.length+1) 1 true,m.new id0 (.row (q.flatMap intE++intE x) 0 false),λk=>?_,Or.inr ⟨id0,0,0,q.flatMap intE++intE x,h0,by simp,by simp,by simp,by simp[hl,intE]⟩,rfl,λj hj=>?_⟩
  .simp only[rL];rw[xc2 (by omega),xc1 (by omega),xc2 (hro _ (by omega)),xel,xca (by omega)]
  .rw[Mem.get_new,xc1 (by rintro rfl;omega)]
 .refine⟨.sref id (ver+1) 0 (q.length+1) 1 true,m.set id (.row (q.flatMap intE++intE x) (ver+1) false),λk=>?_,Or.inr ⟨id,ver+1,0,q.flatMap intE++intE x,h1,by simp,by simp,by simp,by simp[hl,intE]⟩,rfl,λj hj=>?_⟩
  .simp only[rL,h3];rw[xc2 ⟨trivial,trivial,by omega,hro _ (by omega)⟩,xc1 (by omega),xc1 (by omega),h4,xca (by omega)]
  .rw[Mem.get_set,xc1 (by rintro rfl;omega)]
theorem QRep.tA{w:Nat}{m:Mem}{a:AV}{q:List Int}(h:QRep w m a q){id0:Id}(h0:w<=id0.1):∃id,Go.Ix.tA id0 a=some [id]/\w<=id.1:=by
 rcases h with rfl|⟨id,ver,off,cs,h1,rfl,h3,h4,h5⟩
 .exact⟨id0,rfl,h0⟩
 .exact⟨id,rfl,h1⟩
end Go.Ix
