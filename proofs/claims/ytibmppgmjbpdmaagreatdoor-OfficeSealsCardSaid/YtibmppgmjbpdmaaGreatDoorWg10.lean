import Derived.Test.YtibmppgmjbpdmaaGreatDoorWg9
set_option linter.unusedSimpArgs false
set_option linter.unusedVariables false
namespace Go.Ix
open Go.Proofs
theorem netF_in(v:Nat):∀z:List (Edge×Int),(∀x∈z,-20<=x.2/\x.2<=20)->-(40*(z.length:Int))<=netF v z/\netF v z<=40*(z.length:Int)
 |[],_=>by simp[netF]
 |x::r,h=>by
  have ih:=netF_in v r (λy hy=>h y (x1s4 _ hy))
  have hx:=h x (x1sc ..)
  simp only[netF,x1s5]
  split<;>split<;>omega
theorem FlowOK.exb{J:Int}{n:Nat}{l:List Edge}{fl tu ex:List Int}(h:FlowOK n l fl tu ex)(hS:Slim J n l)(v:Nat):-680<=at0 ex v/\at0 ex v<=680:=by
 by_cases hv:v<n
 .rw[h.net v hv]
  have:=netF_in v (l.zip fl) (λx hx=>by
   obtain⟨k,hk,rfl⟩:=(mem_zipE h.fll).mp hx
   have h1:=h.cap k hk
   have h2:=hS.jw (edgeAt l k) (by rw[x1eo hk];exact x1sz hk)
   simp only
   omega)
  have hl:=hS.ll
  have:(l.zip fl).length<=17:=by rw[List.length_zip];omega
  omega
 .have:at0 ex v=0:=by
   unfold at0
   rw[x1ss,x1uk (by rw[h.exl];omega)];rfl
  omega
theorem FlowOK.flb{n:Nat}{l:List Edge}{fl tu ex:List Int}(h:FlowOK n l fl tu ex)(k:Nat):-1000<=at0 fl k/\at0 fl k<=1000:=by
 by_cases hk:k<l.length
 .have:=h.cap k hk
  obtain⟨⟨_,_,_,_,_,_,w0,w1⟩,_⟩:=edge_in h.ed hk
  omega
 .have:at0 fl k=0:=by
   unfold at0
   rw[x1ss,x1uk (by rw[h.fll];omega)];rfl
  omega
def PBound(J P:Int)(n:Nat)(ex:List Int):Prop:=0<=P/\P<=(J*12)*(1000-posS n ex)
theorem PBound.push{J P P' amt:Int}{n:Nat}{ex ex':List Int}(h:PBound J P n ex)(h0:0<=J)(h1:P<=P')(h2:P'<=P+J*12)(h3:posS n ex'+amt=posS n ex)(h4:0<amt):PBound J P' n ex':=by
 refine⟨by have:=h.1;omega,?_⟩
 have h5:(J*12)*(1000-posS n ex+1)<=(J*12)*(1000-posS n ex'):=Int.mul_le_mul_of_nonneg_left (by omega) (by omega)
 rw[Int.mul_add,Int.mul_one]at h5
 have:=h.2
 omega
theorem x1li{cs:List AV}{n:Nat}{x:Bool}{lo:Int}(h0:0<=lo)(h2:lo<=n)(hl:cs.length=n):x17h Tryz.prog xa (.slit cs n x) (some (I lo)) none=some (.slit (cs.drop lo.toNat) (n-lo.toNat) x):=by
 obtain⟨i,e1,e2⟩:=x1j9
 simp only[x17h,x17m,u_ints,e1,asI,Option.getD_some,Option.getD_none,e2]
 rw[x1rq ⟨h0,h2,Int.le_refl _,by omega⟩,x1un,x1un,show((n:Int)-lo).toNat=n-lo.toNat by omega,x1s7 (by simp;omega)]
 simp
def QRep(w:Nat)(m:Mem)(a:AV)(q:List Int):Prop:=
 a=.slit (q.flatMap intE) q.length true\/∃id ver off cs,w<=id.1/\a=.sref id ver off q.length 1 true/\m.get id=some (.row cs ver false)/\cs.drop off=q.flatMap intE/\off+q.length=cs.length
theorem QRep.frame{w:Nat}{m m':Mem}{a:AV}{q:List Int}(h:QRep w m a q)(hm:∀id:Id,w<=id.1->m'.get id=m.get id):QRep w m' a q:=by
 rcases h with h|⟨id,ver,off,cs,h1,h2,h3,h4⟩
 .exact Or.inl h
 .exact Or.inr ⟨id,ver,off,cs,h1,h2,by rw[hm id h1];exact h3,h4⟩
theorem QRep.one{w:Nat}{m:Mem}{a:AV}{q:List Int}(h:QRep w m a q):a.cells=[a]/\a.one=true:=by
 rcases h with rfl|⟨id,ver,off,cs,h1,rfl,h3,h4⟩<;>exact⟨rfl,rfl⟩
theorem QRep.len{w:Nat}{m:Mem}{a:AV}{q:List Int}(h:QRep w m a q):sLen Tryz.prog xa a=some (I q.length):=by
 rcases h with rfl|⟨id,ver,off,cs,h1,rfl,h3,h4⟩<;>rfl
theorem QRep.head{w:Nat}{m:Mem}{a:AV}{x:Int}{q:List Int}(h:QRep w m a (x::q)):∃p,sIx 1 a (I 0)=some p/\sLd false 1 p m=some (I x):=by
 rcases h with rfl|⟨id,ver,off,cs,h1,rfl,h3,h4,h5⟩
 .refine⟨.plit ((x::q).flatMap intE),?_,rfl⟩
  have:=(Sl.lit (x::q) true (enc:=intE)).ixI x1iw (k:=0) (by omega) (by simp)
  simpa using this
 .refine⟨.ptr id ver off,by simp[sIx,asI],?_⟩
  rw[sLd_ptr,h3]
  simp only[x1ci,Nat.beq_refl,cond_true]
  rw[h4];rfl
theorem QRep.tail{w:Nat}{m:Mem}{a:AV}{x:Int}{q:List Int}(h:QRep w m a (x::q)):∃a',x17h Tryz.prog xa a (some (I 1)) none=some a'/\QRep w m a' q:=by
 rcases h with rfl|⟨id,ver,off,cs,h1,rfl,h3,h4,h5⟩
 .refine⟨.slit (q.flatMap intE) q.length true,?_,Or.inl rfl⟩
  rw[x1li (by omega) (by rw[x1s5];omega) (x1cn _)]
  rfl
 .refine⟨.sref id ver (off+1) q.length 1 true,?_,Or.inr ⟨id,ver,off+1,cs,h1,rfl,h3,?_,by simp at h5;omega⟩⟩
  .rw[slice_lo (by omega) (by rw[x1s5];omega)]
   rfl
  .rw[<-x1vm,h4];rfl
theorem QRep.app{w:Nat}{m:Mem}{a:AV}{q:List Int}(h:QRep w m a q)(hq:q.length<=100000){id0:Id}(h0:w<=id0.1)(x:Int) :
 ∃a' m',(∀{R:Type} (k:AV->Mem->Option R),sApp 1 8 id0 (some (intE x,1)) a m k=k a' m')/\QRep w m' a' (q++[x])/\m'.next=m.next/\∀id:Id,id.1<w->m'.get id=m.get id:=by
 have hro:∀k,k<=100001->x17k k 8:=λk hk=>by unfold x17k;omega
 have hl:=x1cn q
 rcases h with rfl|⟨id,ver,off,cs,h1,rfl,h3,h4,h5⟩
 .refine⟨.sref id0 0 0 (q.length+1) 1 true,m.new id0 (.row (q.flatMap intE++intE x) 0 false),λk=>?_,Or.inr ⟨id0,0,0,q.flatMap intE++intE x,h0,by simp,by simp,by simp,by simp[hl,intE]⟩,rfl,λj hj=>?_⟩
  .simp only[sApp]
   rw[x1rq (by omega),x1rr (by omega),x1rq (hro _ (by omega)),x1un,x1s7 (by omega)]
  .rw[Mem.get_new,x1rr (by rintro rfl;omega)]
 .refine⟨.sref id (ver+1) 0 (q.length+1) 1 true,m.set id (.row (q.flatMap intE++intE x) (ver+1) false),λk=>?_,Or.inr ⟨id,ver+1,0,q.flatMap intE++intE x,h1,by simp,by simp,by simp,by simp[hl,intE]⟩,rfl,λj hj=>?_⟩
  .simp only[sApp,h3]
   rw[x1rq ⟨trivial,trivial,by omega,hro _ (by omega)⟩,x1rr (by omega),x1rr (by omega),h4,x1s7 (by omega)]
  .rw[Mem.get_set,x1rr (by rintro rfl;omega)]
theorem QRep.tA{w:Nat}{m:Mem}{a:AV}{q:List Int}(h:QRep w m a q){id0:Id}(h0:w<=id0.1):∃id,Go.Ix.tA id0 a=some [id]/\w<=id.1:=by
 rcases h with rfl|⟨id,ver,off,cs,h1,rfl,h3,h4,h5⟩
 .exact⟨id0,rfl,h0⟩
 .exact⟨id,rfl,h1⟩
def nearU(l:List Edge)(a:Int):List Int:=l.flatMap λe=>if 0<e.wt then(if e.fr=a then[e.to]else if e.to=a then[e.fr]else[])else[]
def okjd(u fc:Nat)(id:Id):Prop:=id.1=u/\(id.2.2=35\/id.2.2=44)/\id.2.1<fc
structure AtJ (u fc:Nat) (cells:List AV) (adj:Nat->List Int) (m:Mem):Prop where
 sh:∃ids:Nat->Id,(∀(v:Nat) (hv:v<cells.length),(cells[v]=nilS/\adj v=[])\/(∃ver,cells[v]=.sref (ids v) ver 0 (adj v).length 1 true/\m.get (ids v)=some (.row ((adj v).flatMap intE) ver false)/\okjd u fc (ids v)/\adj v≠[])) /\
  ∀v w,v<cells.length->w<cells.length->adj v≠[]->adj w≠[]->v≠w->ids v≠ids w
theorem AtJ.frame{u fc fc':Nat}{cells:List AV}{adj:Nat->List Int}{m m':Mem}(h:AtJ u fc cells adj m)(hm:∀id,okjd u fc id->m'.get id=m.get id)(hfc:fc<=fc'):AtJ u fc' cells adj m':=by
 obtain⟨ids,h1,h2⟩:=h.sh
 refine⟨ids,λv hv=>?_,h2⟩
 rcases h1 v hv with h|⟨ver,a,b,c,d⟩
 .exact Or.inl h
 .exact Or.inr ⟨ver,a,by rw[hm _ c];exact b,⟨c.1,c.2.1,by have:=c.2.2;omega⟩,d⟩
theorem AtJ.app{u fc fc':Nat}{cells:List AV}{adj:Nat->List Int}{m:Mem}(h:AtJ u fc cells adj m){v:Nat}(hv:v<cells.length)(x:Int){id0:Id}(h1:id0.1=u)(h2:id0.2.2=35\/id0.2.2=44)(h3:fc<=id0.2.1)(h4:id0.2.1<fc')(hr:(adj v).length<=100000) :
 ∃a' m' idA,(∀{R:Type} (k:AV->Mem->Option R),sApp 1 8 id0 (some (intE x,1)) cells[v] m k=k a' m')/\AtJ u fc' (cells.set v a') (λw=>if w=v then adj v++[x]else adj w) m'/\a'.cells=[a']/\a'.one=true/\m'.next=m.next/\(∀j:Id,¬okjd u fc' j->m'.get j=m.get j) /\
  tA id0 cells[v]=some [idA]/\(idA.2.2=35\/idA.2.2=44)/\idA.1=u:=by
 obtain⟨ids,e1,e2⟩:=h.sh
 have hro:∀k,k<=100001->x17k k 8:=λk hk=>by unfold x17k;omega
 have others:∀(w:Nat) (hw:w<cells.length),((cells[w]=nilS/\adj w=[])\/(∃ver,cells[w]=.sref (ids w) ver 0 (adj w).length 1 true/\m.get (ids w)=some (.row ((adj w).flatMap intE) ver false)/\okjd u fc (ids w)/\adj w≠[])):=e1
 rcases e1 v hv with ⟨c1,c2⟩|⟨ver,c1,c2,c3,c4⟩
 ·
  refine⟨.sref id0 0 0 1 1 true,m.new id0 (.row (intE x) 0 false),id0,λk=>?_,⟨λw=>if w=v then id0 else ids w,λw hw=>?_,λw w' hw hw' n1 n2 hne=>?_⟩,rfl,rfl,rfl,λj hj=>?_,by rw[c1];rfl,h2,h1⟩
  .rw[c1]
   simp only[sApp]
   rw[x1rr (by omega),x1rq (hro 1 (by omega))]
  .simp only[x1to]at hw
   by_cases hwv:w=v
   .subst hwv
    right
    refine⟨0,?_,?_,?_,by simp⟩
    .simp[c2]
    .simp[c2]
    .simp only[x1s6];exact⟨h1,h2,h4⟩
   .rw[x1v5 (λe=>hwv e.symm)]
    simp only[x1rr hwv]
    rcases others w hw with h|⟨ver,a,b,c,d⟩
    .exact Or.inl h
    .refine Or.inr ⟨ver,a,?_,⟨c.1,c.2.1,by have:=c.2.2;omega⟩,d⟩
     rw[Mem.get_new,x1rr (by rintro e;rw[e]at c;have:=c.2.2;omega)];exact b
  .simp only[x1to]at hw hw'
   by_cases hwv:w=v
   .have hwv':w'≠v:=by omega
    simp only[x1rq hwv,x1rr hwv']
    simp only[x1rr hwv']at n2
    rcases others w' hw' with ⟨_,h⟩|⟨_,_,_,c,_⟩
    .exact absurd h n2
    .intro e;rw[<-e]at c;have:=c.2.2;omega
   .by_cases hwv':w'=v
    .simp only[x1rr hwv,x1rq hwv']
     simp only[x1rr hwv]at n1
     rcases others w hw with ⟨_,h⟩|⟨_,_,_,c,_⟩
     .exact absurd h n1
     .intro e;rw[e]at c;have:=c.2.2;omega
    .simp only[x1rr hwv,x1rr hwv']at n1 n2 ⊢
     exact e2 w w' hw hw' n1 n2 hne
  .rw[Mem.get_new,x1rr (by rintro rfl;exact hj ⟨h1,h2,h4⟩)]
 .have hl:=x1cn (adj v)
  refine⟨.sref (ids v) (ver+1) 0 ((adj v).length+1) 1 true,m.set (ids v) (.row ((adj v).flatMap intE++intE x) (ver+1) false),ids v,λk=>?_,⟨ids,λw hw=>?_,λw w' hw hw' n1 n2 hne=>?_⟩,rfl,rfl,rfl,λj hj=>?_,by rw[c1];rfl,c3.2.1,c3.1⟩
  .rw[c1]
   simp only[sApp,c2]
   rw[x1rq ⟨trivial,trivial,by omega,hro _ (by omega)⟩,x1rr (by omega),x1rr (by omega),x1sg,x1s7 (by omega)]
  .simp only[x1to]at hw
   by_cases hwv:w=v
   .subst hwv
    right
    refine⟨ver+1,by simp,by simp,⟨c3.1,c3.2.1,by have:=c3.2.2;omega⟩,by simp⟩
   .rw[x1v5 (λe=>hwv e.symm)]
    simp only[x1rr hwv]
    rcases others w hw with h|⟨ver',a,b,c,d⟩
    .exact Or.inl h
    .refine Or.inr ⟨ver',a,?_,⟨c.1,c.2.1,by have:=c.2.2;omega⟩,d⟩
     rw[Mem.get_set,x1rr (e2 w v hw hv d c4 hwv)];exact b
  .simp only[x1to]at hw hw'
   refine e2 w w' hw hw' ?_ ?_ hne
   .by_cases hwv:w=v
    .subst hwv;exact c4
    .simpa[hwv]using n1
   .by_cases hwv:w'=v
    .subst hwv;exact c4
    .simpa[hwv]using n2
  .rw[Mem.get_set,x1rr (by rintro rfl;exact hj ⟨c3.1,c3.2.1,by have:=c3.2.2;omega⟩)]
end Go.Ix
