import Derived.Test.YtjngclcijnpooaaGreatDoorWg1
set_option maxRecDepth 10000
set_option linter.all false
open Go.Proofs.Tryz
noncomputable section
namespace Go.Ix
def nY(lt:Int->Int->Bool):Nat->List Int->List Int
 |0,L=>L
 |j+1,L=>if lt (at0 L (j+1)) (at0 L j)=true then nY lt j ((L.set (j+1) (at0 L j)).set j (at0 L (j+1)))else L
def xjn(lt:Int->Int->Bool):∀(j:Nat) (L:List Int),(nY lt j L).length=L.length
 |0,_=>rfl
 |j+1,L=>by
  rw[nY];split
  .rw[xjn lt j];simp
  .rfl
def ybs{R:Int->Int->Prop}(o:∀{a b c},R a b->R b c->R a c){lt:Int->Int->Bool}{x:Int}:∀(A B:List Int),A.Pairwise R->(∀v∈A,(lt x v=true->R x v)/\(lt x v=false->R v x)) ->
    ∃C,nY lt A.length (A++x::B)=C++B/\C.Pairwise R/\C.Perm (A++[x]):=by
 intro A;generalize i:A.length=n;induction n generalizing A with
 |zero=>intro B _ _;have:=sA.mp i;subst this;exact⟨[x],rfl,by simp,jq _⟩
 |succ n F=>
  intro B g j;obtain⟨e,y,rfl⟩:∃e y,A=e++[y]:=(by have h:A≠[]:=(by rintro rfl;simp at i);exact⟨A.dropLast,A.getLast h,(jn h).symm⟩);have hn':e.length=n:=(by simpa using i);have r:e++[y]++x::B=e++y::x::B:=(by simp);have t:at0 (e++y::x::B) (n+1)=x:=(by rw[fD (by simp;omega),xk2 (by omega)];simp[hn']);have u:at0 (e++y::x::B) n=y:=(by rw[fD (by simp;omega),xk2 (by omega)];simp[hn']);have Z:((e++y::x::B).set (n+1) y).set n x=e++x::y::B:=(by rw[xkp _ _ (by omega),xkp _ _ (by omega)];simp[hn']);rw[X6]at g;obtain⟨w,l⟩:=j y (by simp);rw[r,nY,t,u,Z];by_cases c:lt x y=true
  .rw[aH c];obtain⟨C,D,E,m⟩:=F e hn' (y::B) g.1 λv p=>j v (by simp[p])
   refine⟨C++[y],by rw[D];simp,?_,?_⟩
   .rw[X6];refine⟨E,by simp,λa d b f=>?_⟩;simp at f;subst f;rcases jC.mp (m.mem_iff.mp d)with d|d
    .exact g.2.2 a d b (by simp)
    .simp at d;subst d;exact w c
   .refine(m.append_right [y]).trans ?_;rw[sB,sB];exact List.Perm.append_left e (List.Perm.swap y x [])
  .rw[aD c];have c':lt x y=false:=(by simpa using c);refine⟨e++[y]++[x],by simp,?_,jq _⟩;rw[X6];refine⟨X6.mpr g,by simp,λa d b f=>?_⟩;simp at f;subst f;rcases jC.mp d with d|d
   .exact o (g.2.2 a d y (by simp)) (l c')
   .simp at d;subst d;exact l c'
def iQ(lt:Int->Int->Bool)(k:Nat)(L:List Int):List Int:=(List.range' 1 k).foldl (λL i=>nY lt i L) L
def FW(lt:Int->Int->Bool)(k:Nat)(L:List Int):iQ lt (k+1) L=nY lt (k+1) (iQ lt k L):=by unfold iQ;rw[List.range'_concat,HF];simp[iz]
def xgw(lt:Int->Int->Bool)(k:Nat)(L:List Int):(iQ lt k L).length=L.length:=by
 induction k with
 |zero=>rfl
 |succ k a=>rw[FW,xjn,a]
def x3g{R:Int->Int->Prop}(j:∀{a b c},R a b->R b c->R a c){lt:Int->Int->Bool}{L:List Int}(h:∀(i:Nat) (u:i<L.length),∀v∈L.take i,(lt L[i] v=true->R L[i] v)/\(lt L[i] v=false->R v L[i])) :
    ∀k,k<L.length->∃C,iQ lt k L=C++L.drop (k+1)/\C.Pairwise R/\C.Perm (L.take (k+1)):=by
 intro k;induction k with
 |zero=>
  intro e;refine⟨L.take 1,?_,?_,jq _⟩
  .exact(G7 1 L).symm
  .cases L with
   |nil=>simp
   |cons a l=>simp
 |succ k t=>
  intro e;obtain⟨C,n,o,f⟩:=t (by omega);have d:C.length=k+1:=(by rw[f.length_eq];simp;omega);rw[FW,n,fT e];obtain⟨D,g,p,r⟩:=ybs (R:=R) j (lt:=lt) (x:=L[k+1]) C (L.drop (k+1+1)) o λv m=>h (k+1) e v (f.mem_iff.mp m)
  rw[d]at g;refine⟨D,g,p,r.trans ?_⟩;rw[jV e];exact f.append_right _
def dl{R:Int->Int->Prop}(g:∀{a b c},R a b->R b c->R a c){lt:Int->Int->Bool}{L:List Int}(h:∀(i:Nat) (m:i<L.length),∀v∈L.take i,(lt L[i] v=true->R L[i] v)/\(lt L[i] v=false->R v L[i])) :
    (iQ lt (L.length-1) L).Pairwise R/\(iQ lt (L.length-1) L).Perm L:=by
 by_cases l:L.length=0
 .have:=sA.mp l;subst this;exact⟨List.Pairwise.nil,jq _⟩
 .obtain⟨C,d,j,f⟩:=x3g (R:=R) (lt:=lt) (L:=L) g h (L.length-1) (by omega);have e:L.length-1+1=L.length:=(by omega);rw[e,lU (bT _),jX]at d;rw[e,dU (bT _)]at f;rw[d];exact⟨j,f⟩
def xh0{N i:Nat}(h:i<(freshM N).length):(freshM N)[i]=i:=by simp[freshM]
def x3f(f:Int->Int)(N:Nat):iQ (λx y=>decide (f x<f y)) ((freshM N).length-1) (freshM N)=eJ f N:=by
 obtain⟨d,e⟩:=dl (R:=lx f) xfy (lt:=λx y=>decide (f x<f y)) (L:=freshM N) λi a v b=>by
  rw[xh0 a];obtain⟨j,g,rfl⟩:=zT.mp b;rw[NS,xh0];simp at g;constructor
  .intro h;simp at h;exact .inl h
  .intro h;simp at h;unfold lx;omega
 exact Ordd.one ⟨d,λx=>by rw[e.mem_iff,fresh_mem]⟩ (A0 f N)
def x3h{L:List Int}(d:L.Nodup):Asc (iQ (λx y=>decide (x<y)) (L.length-1) L)/\∀x,x∈iQ (λx y=>decide (x<y)) (L.length-1) L↔x∈L:=by
 obtain⟨m,n⟩:=dl (R:=λa b:Int=>a<b) (λh k=>by omega) (lt:=λx y=>decide (x<y)) (L:=L) λi f v g=>by
  have l:v≠L[i]:=(by rintro rfl;obtain⟨j,o,e⟩:=zT.mp g;rw[NS]at e;simp at o;have:=yc4.mp d j i (by omega) f (by omega);exact this e);constructor
  .intro h;simpa using h
  .intro h;simp at h;omega
 exact⟨m,λx=>n.mem_iff⟩
open Go.Proofs
def vJ(ok:Id->Prop)(m a:Mem):Prop:=∀j:Id,¬ok j->a.get j=m.get j
def OW(a:aK)(f:AV)(b:Id)(o:Ob)(n:Nat)(c:Int->Int->Int):Prop:=∀(Z:FHs) (x y:Int) (m:Mem),0<=x->x<n->0<=y->y<n->m.get b=some o->∃d,m.next<=d/\fI a Z 2 f [I x,I y] m=some (I (c x y),⟨m.hp,d⟩)
def InN(n:Nat)(L:List Int):Prop:=∀x∈L,0<=x/\x<n
def InN.get{n:Nat}{L:List Int}(h:InN n L){k:Nat}(a:k<L.length):0<=at0 L k/\at0 L k<n:=by rw[fD a];exact h _ (eX a)
def InN.set{n:Nat}{L:List Int}(h:InN n L){k:Nat}{x:Int}(b:0<=x/\x<n):InN n (L.set k x):=λy a=>by
 rcases xku a with a|rfl
 .exact h y a
 .exact b
def x2q(d:aK)(Z:FHs)(u:Nat){a f:AV}{b:Id}{o:Ob}{n:Nat}{c:Int->Int->Int}(hf:OW d f b o n c){ok:Id->Prop}(hb:¬ok b)(e:AV->AV->AV->AV->AV->Mem->Nat->O2)(E:Int)(R:AV)(Q:O2->Prop){m0:Mem}{LL:Nat}(hLL:LL<=1000)(h8:0<=E/\E<=1000)(F:List Int)(W:∀m Y,Gk 1 intE ok m a F->(∀j,¬ok j->m.get j=m0.get j)->m0.next<=m.next->Q (e a (I 0) R f (I (E+1)) m Y)) :
    ∀(j k:Nat) (L:List Int) (m:Mem) (Y:Nat),L.length=LL->j<L.length->j<k->InN n L->nY (λx y=>decide (c x y<0)) j L=F->Gk 1 intE ok m a L->(∀i,¬ok i->m.get i=m0.get i)->m0.next<=m.next->m0.get b=some o ->
    Q (Z1 d Z u e k a (I 0) R f (I E) (I j) m Y):=by
 intro j;induction j with
 |zero=>intro k L m Y X hj hk H g t w A h;obtain⟨k,rfl⟩:∃i,k=i+1:=⟨k-1,by omega⟩;simp only[Z1];unfold RJ RK;simp(disch:=omega) [bJ];rw[nY]at g;subst g;exact W m _ t w A
 |succ j ih=>
  intro k L m Y X hj hk H g t w A h;obtain⟨k,rfl⟩:∃i,k=i+1:=⟨k-1,by omega⟩;obtain⟨q1,C,l1,-⟩:=t.at (k:=((j+1:Nat):Int)) (by omega) (by omega);obtain⟨q0,D,l0,-⟩:=t.at (k:=(j:Int)) (by omega) (by omega);rw[gA]at l1 l0;have l:=H.get (k:=j+1) (by omega);have p:=H.get (k:=j) (by omega);obtain⟨N,hn',hc⟩:=hf Z (at0 L (j+1)) (at0 L j) m l.1 l.2 p.1 p.2 (by rw[w b hb];exact h);have K:((j+1:Nat):Int)-1=(j:Int):=(by omega);have M:(0:Int)<((j+1:Nat):Int):=(by omega);have hG':Gk 1 intE ok (⟨m.hp,N⟩:Mem) a L:=t.frame λid _=>rfl
  obtain⟨p1,j1,r1,-⟩:=hG'.at (k:=((j+1:Nat):Int)) (by omega) (by omega);obtain⟨p0,j0,r0,-⟩:=hG'.at (k:=(j:Int)) (by omega) (by omega);rw[gA]at r1 r0;obtain⟨p2,j2,-,O⟩:=hG'.at (k:=((j+1:Nat):Int)) (by omega) (by omega);obtain⟨m2,e1,e2,e3,e4⟩:=O (at0 L j);rw[gA]at e2;obtain⟨p3,j3,-,P⟩:=e2.at (k:=(j:Int)) (by omega) (by simp;omega);obtain⟨m3,f1,f2,f3,f4⟩:=P (at0 L (j+1));rw[gA]at f2;obtain rfl:p1=q1:=(by rw[j1]at C;cases C;rfl);obtain rfl:p0=q0:=(by rw[j0]at D;cases D;rfl);obtain rfl:p2=p1:=(by rw[j2]at C;cases C;rfl);obtain rfl:p3=p0:=(by rw[j3]at D;cases D;rfl);rw[nY]at g;simp only[Z1];unfold RJ;simp only[gI,dO,hJ,gZ,M,bC,bB,gD,aE,C,l1,mQ];rw[bJ,K];simp only[bB,aE,l0,hc,bQ,cN,D,r0,r1];by_cases J:c (at0 L (j+1)) (at0 L j)<0
  .rw[aH (by simpa using J)]at g;simp only[J,bC,aR,e1,f1];exact ih k _ m3 _ (by simpa using X) (by simp;omega) (by omega) ((H.set p).set l) g f2 (λi r=>by rw[f4 i r,e4 i r];exact w i r) (by rw[f3,e3];show m0.next<=N;omega) h
  .rw[aD (by simpa using J)]at g;subst g;simp only[J,bK,aS];unfold RK;simp(disch:=omega) [bJ];exact W _ _ hG' (λi r=>by rw[<-w i r];rfl) (by show m0.next<=N;omega)
def xjo{n:Nat}{lt:Int->Int->Bool}:∀(j:Nat) (L:List Int),j<L.length->InN n L->InN n (nY lt j L)
 |0,_,_,h=>h
 |j+1,L,a,h=>by
  rw[nY];split
  .exact xjo j _ (by simp;omega) ((h.set (h.get (by omega))).set (h.get (by omega)))
  .exact h
def ybd(d:Nat)(Z:FHs){a f:AV}{b:Id}{o:Ob}{n:Nat}{c:Int->Int->Int}(J:OW (aG d) f b o n c){ok:Id->Prop}(A:¬ok b){L:List Int}{m:Mem}(K:L.length<=1000)(M:InN n L)(C:Gk 1 intE ok m a L)(i:m.get b=some o) :
    ∃e,aG (d+1) Z P7 [a,I 0,I L.length,f] m=some (.tup [],e)/\Gk 1 intE ok e a (iQ (λx y=>decide (c x y<0)) (L.length-1) L)/\m.next<=e.next/\vJ ok m e:=by
 rw[x72];unfold na RI;simp(disch:=omega) [bJ];have H:iQ (λx y=>decide (c x y<0)) 0 L=L:=rfl;by_cases R:L.length=0
 .obtain⟨E,w⟩:∃E,NN=E+1:=⟨NN-1,by have:=cU;omega⟩;rw[w];simp only[d4];unfold HV;have:¬((1:Int)<(L.length:Int)):=(by omega);simp[R];exact⟨C.frame λ_ _=>rfl,λj _=>rfl⟩
 .refine nQ (N:=L.length-1) (σ:=Unit) (λj k _ e Y=>d4 (aG d) Z m.next j a (I 0) (I L.length) f (I ((k+1:Nat):Int)) e Y)
   (λk _ e=>Gk 1 intE ok e a (iQ (λx y=>decide (c x y<0)) k L)/\InN n (iQ (λx y=>decide (c x y<0)) k L)/\m.next<=e.next/\vJ ok m e)
   (λr=>∃e,r=some (.tup [],e)/\Gk 1 intE ok e a (iQ (λx y=>decide (c x y<0)) (L.length-1) L)/\m.next<=e.next/\vJ ok m e) ?_ ?_ NN 0 () _ _ (by omega) (by rw[cU];omega) ⟨C.frame λ_ _=>rfl,M,by show m.next<=m.next+1;omega,λj _=>rfl⟩
  .rintro j k-g Y X ⟨p,t,F,h⟩ next;have hk':(((k+1:Nat):Int))<(L.length:Int):=(by omega);simp only[d4];unfold HV wg;simp only[bQ,hk',bC,aR,aE];have u:=xgw (λx y=>decide (c x y<0)) k L;refine x2q (aG d) Z m.next J A (d4 (aG d) Z m.next j) ((k+1:Nat):Int) (I L.length) (λr=>∃e,r=some (.tup [],e)/\Gk 1 intE ok e a (iQ (λx y=>decide (c x y<0)) (L.length-1) L)/\m.next<=e.next/\vJ ok m e) (m0:=g) (LL:=L.length) K (by omega) (iQ (λx y=>decide (c x y<0)) (k+1) L) (λO l P Q W=>?_) (k+1) NN (iQ (λx y=>decide (c x y<0)) k L) g _ u (by omega) (by rw[cU];omega) t (FW _ k L).symm p (λ_ _=>rfl) (bT _) (by rw[h b A];exact i);exact next () O l ⟨P,by rw[FW];exact xjo _ _ (by omega) t,by omega,λj D=>by rw[Q j D,h j D]⟩
  .rintro j-g Y ⟨p,t,F,h⟩;have hk':¬(((L.length-1+1:Nat):Int))<(L.length:Int):=(by omega);simp only[d4];unfold HV;simp only[bQ,hk',bK,aS,aE];exact⟨g,rfl,p,F,h⟩
def ybm(d:Nat)(Z:FHs){a f:AV}{b:Id}{o:Ob}{n:Nat}{c:Int->Int->Int}(r:OW (aG d) f b o n c){ok:Id->Prop}(t:¬ok b){L:List Int}{m:Mem}(F:L.length<20)(u:InN n L)(p:Gk 1 intE ok m a L)(i:m.get b=some o) :
    ∃g,aG (d+3) Z DQ [a,f] m=some (.tup [],g)/\Gk 1 intE ok g a (iQ (λx y=>decide (c x y<0)) (L.length-1) L)/\m.next<=g.next/\vJ ok m g:=by
 rw[x74];unfold nf RM;simp[p.len jZ];rw[x7z];unfold mu RD;obtain⟨h,e⟩:∃h,NN=h+1:=⟨NN-1,by have:=cU;omega⟩;rw[e];simp only[NV];have l:¬(20:Int)<=(L.length:Int):=(by omega);have h20':¬(20:Int)<(L.length:Int):=(by omega);obtain⟨g,A,C,D,E⟩:=ybd d Z r t (m:=⟨m.hp,m.next+1+1⟩) (by omega) u (p.frame λ_ _=>rfl) (by rw[<-i];rfl);unfold vq vr;simp[l,A];obtain⟨h,e⟩:∃h,NN=h+1:=⟨NN-1,by have:=cU;omega⟩;rw[e];simp only[NW];unfold vt;simp[h20'];exact⟨C,by have:m.next+1+1<=g.next:=D;omega,λj w=>by rw[E j w];rfl⟩
def xon(d:Nat)(x y:Int)(m:Mem):aI (aG (d+2)) T6 [I x,I y] m=some (B (decide (x<y)),m):=by
 have a:∀(x:Int) (m:Mem),aI (aG (d+1)) T5 [I x] m=some (B false,m):=λx m=>by refine dT rfl ?_ m;rw[ya1];unfold sr XO;simp[mem0];exact RetF.st rfl rfl
 refine dT rfl ?_ m;rw[ya2];unfold ss XP;simp[mem0,a];exact RetF.st rfl rfl
def x2p(d:Nat)(Z:FHs)(u:Nat){a:AV}{ok:Id->Prop}(e:AV->AV->AV->AV->Mem->Nat->O2)(h:Int)(D:AV)(Q:O2->Prop){m0:Mem}{LL:Nat}(N:LL<=1000)(h8:0<=h/\h<=1000)(F:List Int)(E:∀m Y,Gk 1 intE ok m a F->(∀j,¬ok j->m.get j=m0.get j)->m.next=m0.next->Q (e a (I 0) D (I (h+1)) m Y)) :
    ∀(j k:Nat) (L:List Int) (m:Mem) (Y:Nat),L.length=LL->j<L.length->j<k->nY (λx y=>decide (x<y)) j L=F->Gk 1 intE ok m a L->(∀i,¬ok i->m.get i=m0.get i)->m.next=m0.next ->
    Q (Z0 (aG (d+2)) Z u e k a (I 0) D (I h) (I j) m Y):=by
 intro j;induction j with
 |zero=>intro k L m Y H O P f g l b;obtain⟨k,rfl⟩:∃i,k=i+1:=⟨k-1,by omega⟩;simp only[Z0];unfold RG RH;simp(disch:=omega) [bJ];rw[nY]at f;subst f;exact E m _ g l b
 |succ j ih=>
  intro k L m Y H O P f g l b;obtain⟨k,rfl⟩:∃i,k=i+1:=⟨k-1,by omega⟩;obtain⟨q1,R,t,w⟩:=g.at (k:=((j+1:Nat):Int)) (by omega) (by omega);obtain⟨W,A,J,-⟩:=g.at (k:=(j:Int)) (by omega) (by omega);rw[gA]at t J;have p:((j+1:Nat):Int)-1=(j:Int):=(by omega);have r:(0:Int)<((j+1:Nat):Int):=(by omega);obtain⟨m2,X,K,e3,e4⟩:=w (at0 L j);rw[gA]at K;obtain⟨p3,j3,-,C⟩:=K.at (k:=(j:Int)) (by omega) (by simp;omega);obtain⟨m3,f1,M,f3,f4⟩:=C (at0 L (j+1));rw[gA]at M;obtain rfl:p3=W:=(by rw[j3]at A;cases A;rfl);rw[nY]at f;simp only[Z0];unfold RG;simp only[gI,dO,hJ,gZ,r,bC,bB,gD,aE,R,t,mQ];rw[bJ,p];simp only[bB,aE,A,J,xon d,cN,t];by_cases n:at0 L (j+1)<at0 L j
  .rw[aH (by simpa using n)]at f;simp only[n,bC,aR,X,f1];exact ih k _ m3 _ (by simpa using H) (by simp;omega) (by omega) f M (λi o=>by rw[f4 i o,e4 i o];exact l i o) (by rw[f3,e3];exact b)
  .rw[aD (by simpa using n)]at f;subst f;simp only[n,bK,aS];unfold RH;simp(disch:=omega) [bJ];exact E _ _ g l b
def ybc(d:Nat)(Z:FHs){a:AV}{ok:Id->Prop}{L:List Int}{m:Mem}(u:L.length<=1000)(n:Gk 1 intE ok m a L) :
    ∃b,aG (d+3) Z DP [a,I 0,I L.length] m=some (.tup [],b)/\Gk 1 intE ok b a (iQ (λx y=>decide (x<y)) (L.length-1) L)/\b.next=m.next+1/\vJ ok m b:=by
 rw[x71];unfold mz RF;simp(disch:=omega) [bJ];by_cases D:L.length=0
 .obtain⟨p,l⟩:∃p,NN=p+1:=⟨NN-1,by have:=cU;omega⟩;rw[l];simp only[b9];unfold HU;simp[D];exact⟨n.frame λ_ _=>rfl,λj _=>rfl⟩
 .refine nQ (N:=L.length-1) (σ:=Unit) (λj k _ b Y=>b9 (aG (d+2)) Z m.next j a (I 0) (I L.length) (I ((k+1:Nat):Int)) b Y)
   (λk _ b=>Gk 1 intE ok b a (iQ (λx y=>decide (x<y)) k L)/\b.next=m.next+1/\vJ ok m b)
   (λr=>∃b,r=some (.tup [],b)/\Gk 1 intE ok b a (iQ (λx y=>decide (x<y)) (L.length-1) L)/\b.next=m.next+1/\vJ ok m b) ?_ ?_ NN 0 () _ _ (by omega) (by rw[cU];omega) ⟨n.frame λ_ _=>rfl,rfl,λj _=>rfl⟩
  .rintro j k-e Y F ⟨g,t,h⟩ next;have hk':(((k+1:Nat):Int))<(L.length:Int):=(by omega);simp only[b9];unfold HU wd;simp only[bQ,hk',bC,aR,aE];have i:=xgw (λx y=>decide (x<y)) k L;refine x2p d Z m.next (b9 (aG (d+2)) Z m.next j) ((k+1:Nat):Int) (I L.length) (λr=>∃b,r=some (.tup [],b)/\Gk 1 intE ok b a (iQ (λx y=>decide (x<y)) (L.length-1) L)/\b.next=m.next+1/\vJ ok m b) (m0:=e) (LL:=L.length) u (by omega) (iQ (λx y=>decide (x<y)) (k+1) L) (λw f A C E=>?_) (k+1) NN (iQ (λx y=>decide (x<y)) k L) e _ i (by omega) (by rw[cU];omega) (FW _ k L).symm g (λ_ _=>rfl) rfl;exact next () w f ⟨A,by omega,λj o=>by rw[C j o,h j o]⟩
  .rintro j-e Y ⟨g,t,h⟩;have hk':¬(((L.length-1+1:Nat):Int))<(L.length:Int):=(by omega);simp only[b9];unfold HU;simp only[bQ,hk',bK,aS,aE];exact⟨e,rfl,g,t,h⟩
def Gk.sl1{ok:Id->Prop}{m:Mem}{a:AV}{l:List Int}(h:Gk 1 intE ok m a l)(k:Nat):∃b,Ints b l/\Go.Ix.frz m.get (k+2) a=some b:=h.frz gE wS
def pR(t:Nat):Id->Prop:=λid=>id.1=0/\id.2.2=t
def kI(n:Nat)(P:List Pq)(F:List Int):List Int:=joinsM (freshM n) (prs P F)
def xbw{n:Nat}{P:List Pq}{F:List Int}(h:Rng n P F):Lab n (kI n P F):=(Lab.fresh n).joins λp a=>by obtain⟨i,b,rfl⟩:=fK.mp a;exact(h i b).2
def Rng.take{n:Nat}{P:List Pq}{F:List Int}(h:Rng n P F)(k:Nat):Rng n P (F.take k):=λi a=>h i (GZ a)
def xpb{n:Nat}{P:List Pq}{F:List Int}{k:Nat}(a:k<F.length):kI n P (F.take (k+1))=jH (kI n P (F.take k)) (cL P (at0 F k)):=by unfold kI prs;rw[jV a,kY,xgp,fD a];rfl
structure Right7 (l:List Scene) (P:List Pq):Prop where
 ll:l.length<=60
 ib:InB l
 pl:P.length<=200
 pr:∀p∈P,PqIn l.length p
 nd:P.Nodup
def xeg{n:Int}{P:List Pq}:∀(d:List Pq) (k:Nat),P.drop k=d->(y9 n P k d).2=0->(∀p∈d,(0<=p.a/\p.a<p.b)/\p.b<n)/\((P.take k).Nodup->P.Nodup)
 |[],k,i,_=>⟨λp g=>(by cases g),λh=>by
  have:P.length<=k:=gX.mp i
  rwa[dU this]at h⟩
 |x::r,k,i,h=>by
  obtain⟨w,y,i⟩:=gK i;simp only[y9]at h;cases f:wi x.a 0 (n-1)with
  |false=>simp[f]at h
  |true=>
   cases j:wi x.b 0 (n-1)with
   |false=>simp[f,j]at h
   |true=>
    by_cases m:x.b<=x.a
    .simp[f,j,m]at h
    .cases l:(P.take k).any λq=>q.same x with
     |true=>simp[f,j,m,l]at h
     |false=>
      simp[f,j,m,l]at h;obtain⟨A,C⟩:=xeg r (k+1) i h;refine⟨λp g=>?_,λt=>C ?_⟩
      .have:=o8 f;have:=o8 j;rcases eD.mp g with rfl|g
       .omega
       .exact A p g
      .rw[jV w,zS];refine⟨t,by simp,λa u b o e=>?_⟩;simp at o;rw[H2]at l;have:=l a u;rw[e,o,y,Pq.same_self]at this;exact this rfl
def xzp{l:List Scene}{P:List Pq}(h:(uS l P).2=0):Right7 l P:=by
 unfold uS at h;by_cases a:(sI l).2=0
 .obtain⟨e,f⟩:=xc9 a;simp[a]at h;by_cases b:200<P.length
  .simp[b]at h
  .simp[b]at h;obtain⟨g,i⟩:=xeg P 0 rfl h;exact⟨e,f,by omega,λp d=>by have:=g p d;exact⟨by omega,by omega,by omega⟩,i (by simp)⟩
 .simp[a]at h
def Right7.at{l:List Scene}{P:List Pq}(h:Right7 l P){i:Int}(a:0<=i/\i<P.length):PqIn l.length (cL P i):=LF h.pr a
end Go.Ix
namespace Go.Ix
variable{P:List Pq}{n:Nat}
def uE(a:Int->Int):List Sp->Int
 |[]=>0
 |x::r=>x.s*a x.p+uE a r
def PotS(P:List Pq)(F:List Int)(ph φ:Int->Int):Prop:=∀i∈F,φ (cL P i).b-φ (cL P i).a=ph i
def PotS.step{F:List Int}{ph φ:Int->Int}(h:PotS P F ph φ){x:Sp}(a:kG F x):x.s*ph x.p=φ (cY P x)-φ (fB P x):=by have:=h x.p a.1;unfold cY fB;rcases a.2 with e|e<;>rw[e]<;>simp<;>omega
def PotS.walk{F:List Int}{ph φ:Int->Int}(h:PotS P F ph φ):∀{w:List Sp} {a b:Int},Wk P w a b->AllF F w->uE ph w=φ b-φ a
 |[],a,b,d,_=>by cases d;simp[uE]
 |x::r,a,b,d,e=>by rw[uE,h.step e.head,h.walk d.2 e.tail,<-d.1];omega
def xxv(t:∀p∈P,PqIn n p)(m:Int->Int):∀(k:Nat) (F:List Int),F.length=k->For n P F->∃φ,PotS P F m φ:=by
 intro k;induction k with
 |zero=>intro F l _;exact⟨λ_=>0,λi g=>by rw[sA.mp l]at g;cases g⟩
 |succ k A=>
  intro F l h;obtain⟨G,q,rfl⟩:∃G q,F=G++[q]:=(by have d:F≠[]:=(by rintro rfl;simp at l);exact⟨F.dropLast,F.getLast d,(jn d).symm⟩);have o:=h.take;obtain⟨φ,y⟩:=A G (by simpa using l) o;obtain⟨u,r⟩:∃u,u=joinsM (freshM n) (prs P G):=⟨_,rfl⟩;have e:=h.ind;unfold prs at e;rw[kY]at e;have d:¬Sm u (cL P q).a.toNat (cL P q).b.toNat:=(by have:=(Indep.app.mp e).2;rw[show List.map (cL P) [q]=[cL P q]from rfl]at this;rw[r];exact this.1);have f:∀j∈G,Sm u (cL P j).a.toNat (cL P j).b.toNat:=λj w=>by rw[r];exact D4 (Lab.fresh n) (pP t o.rng) _ (fK.mpr ⟨j,w,rfl⟩)
  unfold Sm at d f;refine⟨λv=>φ v+(if at0 u v.toNat=at0 u (cL P q).b.toNat then m q-(φ (cL P q).b-φ (cL P q).a)else 0),λi g=>?_⟩;rcases jC.mp g with g|g
  .have C:=y i g;have x:=f i g;simp only
   rw[x];omega
  .simp at g;subst g;simp only
   rw[aH trivial,aD d];omega
structure Pot (n:Nat) (P:List Pq) (F:List Int) (ph φ:Int->Int):Prop where
 st:PotS P F ph φ
 z:∀v,v<n->at0 (joinsM (freshM n) (prs P F)) v=v->φ v=0
def xxu(a:∀p∈P,PqIn n p)(b:Int->Int){F:List Int}(h:For n P F):∃φ,Pot n P F b φ:=by
 obtain⟨φ,g⟩:=xxv a b F.length F rfl h;refine⟨λv=>φ v-φ (at0 (joinsM (freshM n) (prs P F)) v.toNat),λi d=>?_,λv j e=>?_⟩
 .have l:=g i d;have f:=D4 (Lab.fresh n) (pP a h.rng) (cL P i) (fK.mpr ⟨i,d,rfl⟩);unfold Sm at f;rw[f];omega
 .show φ v-φ (at0 (joinsM (freshM n) (prs P F)) (v:Int).toNat)=0;rw[gA,e];omega
open Classical in
def lM(n:Nat)(P:List Pq)(F:List Int)(a:Int->Int):Int->Int:=if h:∃φ,Pot n P F a φ then Classical.choose h else λ_=>0
def xei(b:∀p∈P,PqIn n p)(a:Int->Int){F:List Int}(h:For n P F):Pot n P F a (lM n P F a):=by have:=xxu b a h;unfold lM;rw[dif_pos this];exact Classical.choose_spec this
def xco{a:Int->Int}{M:Nat}{F:List Int}(b:∀i∈F,(a i).natAbs<=M):∀{w:List Sp},AllF F w->(uE a w).natAbs<=w.length*M
 |[],_=>by simp[uE]
 |x::r,h=>by have d:=xco b h.tail;have f:=b x.p h.head.1;have g:(x.s*a x.p).natAbs=(a x.p).natAbs:=(by rcases h.head.2 with e|e<;>rw[e]<;>simp);rw[uE,eI,lR];omega
def Pot.abs(d:∀p∈P,PqIn n p){ph φ:Int->Int}{F:List Int}(e:For n P F)(h:Pot n P F ph φ){M:Nat}(m:∀i∈F,(ph i).natAbs<=M){v:Nat}(g:v<n):(φ v).natAbs<=n*M:=by have o:=(Lab.fresh n).joins (pP d e.rng);obtain⟨C,D,l⟩:=o.ok v g;obtain⟨w,u,f⟩:=xgq d e.rng (v:=(at0 (joinsM (freshM n) (prs P F)) v).toNat) (w:=v) (by omega) g (by unfold Sm;exact l);obtain⟨x,b,a,y⟩:=xfb u f;have j:=xzt (e.cut d) b a y;have r:=e.len d;have Z:=h.st.walk b a;have t:=h.z (at0 (joinsM (freshM n) (prs P F)) v).toNat (by omega) (by rw[l];omega);rw[t]at Z;have A:=xco m a;have:x.length*M<=n*M:=oC M (by omega);omega
structure RSt where
 y:List Sp
 k:List Bool
def MY(l:List Sp)(i:Int):Sp:=l.getD i.toNat ⟨0,0⟩
def boA(l:List Bool)(i:Int):Bool:=l.getD i.toNat false
def KS(P:List Pq)(st:RSt)(x:Sp):RSt:=if boA st.k (fB P x)&&!(boA st.k (cY P x))then⟨st.y.set (cY P x).toNat x,st.k.set (cY P x).toNat true⟩else st
def Bw(P:List Pq)(F:List Int)(st:RSt)(fr:Int):List Sp->Int->Prop
 |[],v=>boA st.k v=true/\v=fr
 |x::r,v=>boA st.k v=true/\v≠fr/\MY st.y v=x/\cY P x=v/\kG F x/\Bw P F st fr r (fB P x)
def Bw.one{F:List Int}{st:RSt}{fr:Int}:∀{r s:List Sp} {v:Int},Bw P F st fr r v->Bw P F st fr s v->r=s
 |[],[],_,_,_=>rfl
 |[],x::s,_,h,k=>absurd h.2 k.2.1
 |x::r,[],_,h,k=>absurd k.2 h.2.1
 |x::r,y::s,v,h,k=>by have e:x=y:=h.2.2.1.symm.trans k.2.2.1;subst e;rw[Bw.one h.2.2.2.2.2 k.2.2.2.2.2]
def Bw.walk{F:List Int}{st:RSt}{fr:Int}:∀{r:List Sp} {v:Int},Bw P F st fr r v->Wk P r.reverse fr v/\AllF F r.reverse
 |[],v,h=>⟨h.2.symm,λx b=>by cases b⟩
 |x::r,v,h=>by obtain⟨d,e⟩:=h.2.2.2.2.2.walk;rw[xkq];refine⟨d.app ⟨rfl,h.2.2.2.1⟩,e.app λy a=>?_⟩;simp at a;subst a;exact h.2.2.2.2.1
def Bw.drop{F:List Int}{st:RSt}{fr:Int}:∀{a b:List Sp} {v:Int},Bw P F st fr (a++b) v->∃w,Bw P F st fr b w
 |[],b,v,h=>⟨v,h⟩
 |x::a,b,v,h=>Bw.drop (a:=a) h.2.2.2.2.2
def xfa:∀{w:List Sp} {x:Sp},NB P w->(∀y,w.getLast?=some y->cY P x≠fB P y)->NB P (w++[x])
 |[],_,_,_=>trivial
 |[y],x,_,h=>⟨h y rfl,trivial⟩
 |y::z::r,x,h,b=>⟨h.1,xfa (w:=z::r) h.2 λq a=>b q (by simpa using a)⟩
def Bw.nb{F:List Int}{st:RSt}{fr:Int}:∀{r:List Sp} {v:Int},Bw P F st fr r v->NB P r.reverse
 |[],_,_=>trivial
 |[x],_,_=>trivial
 |x::y::r,v,h=>by
  have b:=h.2.2.2.2.2;have f:=b.nb;rw[xkq];refine xfa f λz a e=>?_
  rw[xkq]at a;simp at a;subst a;have d:=b.2.2.2.2.2;rw[<-e,h.2.2.2.1]at d;have:=congrArg List.length (d.one h);simp only[eI]at this;omega
structure RInv7 (n:Nat) (P:List Pq) (F:List Int) (f0:Int) (st:RSt):Prop where
 y:st.y.length=n
 k:st.k.length=n
 fr:boA st.k f0=true
 bw:∀v:Int,0<=v->v<n->boA st.k v=true->∃r,Bw P F st f0 r v
def W7{l:List Bool}{b v:Int}(a:0<=b)(d:b<l.length)(e:0<=v):boA (l.set b.toNat true) v=if v=b then true else boA l v:=by
 unfold boA;rw[eU,eU,HE];by_cases c:v=b
 .rw[aH c,c,aH rfl,aH (by omega)];rfl
 .rw[aD c,aD (by omega)]
def xjm{l:List Sp}{b v:Int}{x:Sp}(a:0<=b)(d:b<l.length)(e:0<=v):MY (l.set b.toNat x) v=if v=b then x else MY l v:=by
 unfold MY;rw[eU,eU,HE];by_cases c:v=b
 .rw[aH c,c,aH rfl,aH (by omega)];rfl
 .rw[aD c,aD (by omega)]
def vC(a:∀p∈P,PqIn n p){F:List Int}(b:∀i∈F,0<=i/\i<P.length){x:Sp}(d:kG F x):(0<=fB P x/\fB P x<n)/\0<=cY P x/\cY P x<n:=by obtain⟨e,f,g⟩:=LF a (b x.p d.1);unfold fB cY;split<;>omega
def Bw.set(f:∀p∈P,PqIn n p){F:List Int}(g:∀i∈F,0<=i/\i<P.length){st:RSt}{fr b:Int}{x:Sp}(l:st.y.length=n)(m:st.k.length=n)(d:0<=b)(o:b<n)(j:boA st.k b=false):∀{r:List Sp} {v:Int},0<=v->Bw P F st fr r v ->
    Bw P F ⟨st.y.set b.toNat x,st.k.set b.toNat true⟩ fr r v
 |[],v,e,h=>by
  refine⟨?_,h.2⟩;simp only
  rw[W7 d (by omega) e];split
  .rfl
  .exact h.1
 |y::r,v,e,h=>by
  have a:v≠b:=(by rintro rfl;have:=h.1;rw[j]at this;cases this);refine⟨?_,h.2.1,?_,h.2.2.2.1,h.2.2.2.2.1,Bw.set f g l m d o j (vC f g h.2.2.2.2.1).1.1 h.2.2.2.2.2⟩
  .simp only
   rw[W7 d (by omega) e,aD a];exact h.1
  .simp only
   rw[xjm d (by omega) e,aD a];exact h.2.2.1
def RInv7.step(j:∀p∈P,PqIn n p){F:List Int}(l:∀i∈F,0<=i/\i<P.length){fr:Int}(m:0<=fr){st:RSt}(h:RInv7 n P F fr st){x:Sp}(t:kG F x) :
    RInv7 n P F fr (KS P st x)/\(∀v,0<=v->boA st.k v=true->boA (KS P st x).k v=true)/\(boA st.k (fB P x)=true->boA (KS P st x).k (cY P x)=true):=by
 obtain⟨⟨u,C⟩,b,d⟩:=vC j l t;unfold KS;cases D:boA st.k (fB P x)with
 |false=>simp;exact h
 |true=>
  cases g:boA st.k (cY P x)with
  |true=>simp;exact⟨h,g⟩
  |false=>
   simp only[bW,gC,bV];have a:∀v,0<=v->boA st.k v=true->boA (st.k.set (cY P x).toNat true) v=true:=λv w Z=>by
    rw[W7 b (by rw[h.k];exact d) w];split
    .rfl
    .exact Z
   have zC:boA (st.k.set (cY P x).toNat true) (cY P x)=true:=(by rw[W7 b (by rw[h.k];exact d) b,aH rfl]);refine⟨⟨by simp[h.y],by simp[h.k],a fr m h.fr,λv f A Z=>?_⟩,a,λ_=>zC⟩;simp only at Z;rw[W7 b (by rw[h.k];exact d) f]at Z;by_cases c:v=cY P x
   .obtain⟨r,o⟩:=h.bw (fB P x) u C D;refine⟨x::r,?_,?_,?_,c.symm,t,Bw.set j l h.y h.k b d g u o⟩
    .rw[c];exact zC
    .intro e;have:=h.fr;rw[<-e,c,g]at this;cases this
    .simp only
     rw[xjm b (by rw[h.y];exact d) f,aH c]
   .rw[aD c]at Z;obtain⟨r,o⟩:=h.bw v f A Z;exact⟨r,Bw.set j l h.y h.k b d g f o⟩
def r0(n:Nat)(fr:Int):RSt:=⟨List.replicate n ⟨0,0⟩,(List.replicate n false).set fr.toNat true⟩
open Go.Proofs
def xhv{a:Id->Option Ob}{id:Id}{d:List AV}{v b k:Nat}{f:Bool}(h:a id=some (.row d v f)):Go.Ix.frz a (k+1) (.ptr id v b)=((d.drop b).mapM (Go.Ix.frz a k)).map AV.aF:=by simp only[Go.Ix.frz,h,bV]
def xhw{b:Id->Option Ob}{id:Id}{a d:AV}{v k:Nat}{f:Bool}(h:b id=some (.row [a] v f))(e:Go.Ix.frz b k a=some d):Go.Ix.frz b (k+1) (.ptr id v 0)=some (.aF [d]):=by rw[xhv h];simp only[bA,eG,fZ,e];rfl
def xmz:YA=[nilS,nilS]:=by kernel_rfl
def x6b:∀n:Nat,n<=12->oJ prog eE YI (I n)=some (.sc (.int .u64 n))
 |0,_=>by kernel_rfl
 |1,_=>by kernel_rfl
 |2,_=>by kernel_rfl
 |3,_=>by kernel_rfl
 |4,_=>by kernel_rfl
 |5,_=>by kernel_rfl
 |6,_=>by kernel_rfl
 |7,_=>by kernel_rfl
 |8,_=>by kernel_rfl
 |9,_=>by kernel_rfl
 |10,_=>by kernel_rfl
 |11,_=>by kernel_rfl
 |12,_=>by kernel_rfl
 |n+13,h=>by omega
def ycy(a:aK):∀n:Nat,n<=12->∃v:Int,rq a [] [.sc (.int .u64 n)] mem0=some (I v,⟨[],1⟩)
 |0,_=>⟨0,by kernel_rfl⟩
 |1,_=>⟨1,by kernel_rfl⟩
 |2,_=>⟨2,by kernel_rfl⟩
 |3,_=>⟨2,by kernel_rfl⟩
 |4,_=>⟨3,by kernel_rfl⟩
 |5,_=>⟨3,by kernel_rfl⟩
 |6,_=>⟨3,by kernel_rfl⟩
 |7,_=>⟨3,by kernel_rfl⟩
 |8,_=>⟨4,by kernel_rfl⟩
 |9,_=>⟨4,by kernel_rfl⟩
 |10,_=>⟨4,by kernel_rfl⟩
 |11,_=>⟨4,by kernel_rfl⟩
 |12,_=>⟨4,by kernel_rfl⟩
 |n+13,h=>by omega
def xof(d:Nat){n:Nat}(b:n<=12)(m:Mem):∃v:Int,aI (aG (d+2)) EY [.sc (.int .u64 n)] m=some (I v,m):=by
 obtain⟨v,e⟩:=ycy (aG d) n b;have a:∀m,aI (aG (d+1)) EX [.sc (.int .u64 n)] m=some (I v,m):=λm=>by refine dT rfl ?_ m;rw[yaj,e];exact RetF.st rfl rfl
 refine⟨v,dT rfl ?_ m⟩;rw[yak];unfold rr WL;simp[mem0,a];exact RetF.st rfl rfl
def xjk(d:Nat)(Z:FHs){a:AV}{ok:Id->Prop}{L:List Int}{m:Mem}(g:L.length<=12)(h:Gk 1 intE ok m a L) :
    ∃b,aG (d+5) Z B2 [a] m=some (.tup [],b)/\Gk 1 intE ok b a (iQ (λx y=>decide (x<y)) (L.length-1) L)/\m.next<=b.next/\vJ ok m b:=by
 rw[x73];unfold nc RL;obtain⟨v,n⟩:=xof (d+2) g (⟨m.hp,m.next+1⟩:Mem);simp only[h.len jZ,aE,x6b _ g,n];rw[x70];unfold mw RE;obtain⟨i,f⟩:∃i,NN=i+1:=⟨NN-1,by have:=cU;omega⟩;rw[f];simp only[NX];unfold vw;obtain⟨b,o,p,r,t⟩:=ybc d Z (L:=L) (m:=⟨m.hp,m.next+1+1⟩) (by omega) (h.frame λ_ _=>rfl);have e:(L.length:Int)<=12:=(by omega);simp[o];rw[bJ];simp[e];exact⟨p,by have:b.next=m.next+1+1+1:=r;omega,λj l=>by rw[t j l];rfl⟩
def fW(l:List Scene)(P:List Pq)(i:Int):Int:=lenP l (cL P i)
def x6l(d:Nat){s p:AV}{l:List Scene}{P:List Pq}(Z:Sl Scene.c s l)(e:Sl Pq.c p P)(a:Right7 l P)(id:Id)(b:id.1=0):OW (aG (d+3)) (.clo O9 [.ptr id 0 0]) id (.row [s,p] 0 false) P.length (λx y=>fW l P x-fW l P y):=by intro t x y m f g h n u;refine⟨m.next+1,by omega,?_⟩;show aG (d+3) t O9 [I x,I y,.ptr id 0 0] m=_;have o:=a.at (i:=x) ⟨f,g⟩;have r:=a.at (i:=y) ⟨h,n⟩;have A:=xf9 a.ib o;have C:=xf9 a.ib r;rw[x7l];unfold lj QJ;have hg':(⟨m.hp,m.next+1⟩:Mem).get id=some (.row [s,p] 0 false):=u;obtain⟨i,j,k⟩:=id;simp at b;subst b;have w:Nat.ble 1 (m.next+1)=true:=(by rw[Nat.ble_eq];omega);unfold fW;simp[w,hg',xbg d Z e a.ib ⟨f,g⟩ o,xbg d Z e a.ib ⟨h,n⟩ r,Z.eF,e.eF,cV,tR,Nat.blt];rw[bJ]
def ord_rng{f:Int->Int}{N:Nat}:InN N (eJ f N):=λx a=>((A0 f N).2 x).mp a
def bg(f:Int->Int)(N:Nat):(eJ f N).length=N:=by
 have:=xde (A0 f N).nodup (em N).nodup λx=>((A0 f N).2 x).trans fresh_mem.symm
 rw[this];simp[freshM]
def xx7{l:List Scene}{P:List Pq}(a:Right7 l P)(f:Int->Int)(k:Nat):Rng l.length P ((eJ f P.length).take k):=λi b=>by have:=ord_rng _ (GZ b);exact⟨this,a.at this⟩
def ycv(d:Nat){s p:AV}{l:List Scene}{P:List Pq}(Z:Sl Scene.c s l)(R:Sl Pq.c p P)(u:Right7 l P)(hl:l.length<=12)(hP:P.length<=19) :
    RetF (λv=>Ints v (jR (fW l P) l.length P)) (aG (d+7) [] P0 [.agg [s,p]] mem0):=by
 rw[x7m];unfold lm QG uu;simp[mem0,Z.one,R.one,R.len L0];refine nQ (N:=P.length) (λn k a m Y=>Y5 (aG (d+6)) [] 0 n (.ptr (0,0,1) 0 0) a nilS (I P.length) (I k) m Y)
  (λk a m=>m.get (0,0,1)=some (.row [s,p] 0 false)/\Gk 1 intE (pR 19) m a ((freshM P.length).take k)/\m.next=1) _ ?_ ?_ NN 0 nilS _ _ (by omega) (by rw[cU];omega) ⟨by simp,by simpa using Gk.nil,rfl⟩
 .rintro n k a m Y r ⟨h,W,hn⟩ next;have hk':(k:Int)<(P.length:Int):=(by omega);have hlt:((freshM P.length).take k).length=k:=(by simp[freshM];omega);obtain⟨a2,g,L,i,-,-,e3,e4⟩:=W.app (bytes:=8) (id0:=(0,Y+6,19)) gE (by omega) ⟨rfl,rfl⟩ (by unfold cQ;omega) (k:Int);simp only[Y5];unfold QH;simp(disch:=omega) [hk',nB,bJ];rw[show elems m.get 1 (.aQ [I (k:Int)] 1 true)=some (intE (k:Int),1)from rfl,L];exact next a2 g _ ⟨by rw[e4 _ (by unfold pR;simp)];exact h,by rw[<-MF r];exact i,by omega⟩
 .rintro n a m Y ⟨h,W,hn⟩;have r:¬((P.length:Int)<(P.length:Int)):=(by omega);rw[dU (by simp[freshM])]at W;have hfl:(freshM P.length).length=P.length:=(by simp[freshM]);obtain⟨m1,c1,c2,O,c4⟩:=ybm (d+3) [] (x6l d Z R u (0,0,1) rfl) (ok:=pR 19) (by unfold pR;simp) (by omega) (λx w=>fresh_mem.mp w) W h;rw[show(λx y=>decide (fW l P x-fW l P y<0))=λx y=>decide (fW l P x<fW l P y)from by funext x y;exact decide_eq_decide.mpr (by omega),x3f]at c2;have C:m1.get (0,0,1)=some (.row [s,p] 0 false):=(by rw[c4 _ (by unfold pR;simp)];exact h);obtain⟨ua,M,hc,X,hM,Q⟩:=xbe (d+5) (n:=l.length) (by omega) m1;simp only[Y5];unfold QH uv;simp[c1,C,Z.len pK,hc];have hgM:M.get (0,0,1)=some (.row [s,p] 0 false):=(by rw[Q _ (by show 0<m1.next;omega)];exact C);have D:Gk 1 intE (pR 19) M a (eJ (fW l P) P.length):=c2.frame λj e=>Q j (by obtain⟨E,h2⟩:=e;omega)
  have hol:=bg (fW l P) P.length;unfold uw;simp only[D.len jZ,aE];generalize hN1:m1.next=t at *
  have hN0:1<=t:=(by omega);refine nQ (N:=(eJ (fW l P) P.length).length) (λn k o m Y=>Y6 (aG (d+6)) [] 0 n (.ptr (0,0,1) 0 0) o ua a (I (eJ (fW l P) P.length).length) (I k) m Y)
   (λk o m=>(m.get (0,0,1)=some (.row [s,p] 0 false)/\t<m.next)/\Gk 1 intE (pR 19) m a (eJ (fW l P) P.length)/\Gk 1 intE (λid=>id.1=t) m ua (kI l.length P ((eJ (fW l P) P.length).take k)) /\
    Gk 1 intE (pR 46) m o (jO P (freshM l.length) ((eJ (fW l P) P.length).take k))) _ ?_ ?_ NN 0 nilS _ _ (by omega) (by rw[cU];omega) ⟨⟨hgM,by omega⟩,D,by simpa[kI,prs,joinsM]using X,by simpa[jO]using Gk.nil⟩
  .rintro n k o m Y r ⟨⟨h,hmn⟩,hO,X,A⟩ next;have hk':(k:Int)<((eJ (fW l P) P.length).length:Int):=(by omega);obtain⟨q,i1,l1,-⟩:=hO.at (k:=(k:Int)) (by omega) hk';rw[gA]at l1;have w:=ord_rng.get r;have hRk:=xx7 u (fW l P) k;have hL:=(xbw hRk).len;have hq:=u.at w;have ip:=R.ixz Pq.len w.1 w.2;have lp:=λm=>iP (m:=m) (enc:=Pq.c) Pq.len (by omega) (show(at0 (eJ (fW l P) P.length) k).toNat<P.length by omega)
   rw[<-LE (by omega)]at lp;have hus:=xpb (n:=l.length) (P:=P) r;have f:jO P (freshM l.length) ((eJ (fW l P) P.length).take (k+1))=jO P (freshM l.length) ((eJ (fW l P) P.length).take k)++(if at0 (kI l.length P ((eJ (fW l P) P.length).take k)) (cL P (at0 (eJ (fW l P) P.length) k)).a.toNat=at0 (kI l.length P ((eJ (fW l P) P.length).take k)) (cL P (at0 (eJ (fW l P) P.length) k)).b.toNat then[]else[at0 (eJ (fW l P) P.length) k]):=(by rw[jV r,xpv,fD r];rfl);have htl:(jO P (freshM l.length) ((eJ (fW l P) P.length).take k)).length<=20:=(by have E:=(BW (P:=P) ((eJ (fW l P) P.length).take k) (freshM l.length)).length_le;simp at E;omega);obtain⟨g,L,i,e3,e4⟩:=xjh (d+5) [] X (λj e=>by have hj':j.1=t:=e;omega) (p:=cL P (at0 (eJ (fW l P) P.length) k)) (by rw[hL];exact hq) (by rw[hL];omega);have keep:∀j:Id,j.1=0->g.get j=m.get j:=λj e=>e4 j (by show ¬j.1=t;omega) (by omega)
   simp only[Pq.c]at lp;simp only[Y6];unfold QI ux;have F:Gk 1 intE (pR 19) g a (eJ (fW l P) P.length):=hO.frame λj e=>keep j e.1
   have H:Gk 1 intE (pR 46) g o (jO P (freshM l.length) ((eJ (fW l P) P.length).take k)):=A.frame λj e=>keep j e.1
   have J:g.get (0,0,1)=some (.row [s,p] 0 false):=(by rw[keep _ rfl];exact h);rw[<-hus]at i;simp only[bQ,hk',bC,aR,aE,i1,l1];simp[h,ip,lp,L];by_cases O:at0 (kI l.length P ((eJ (fW l P) P.length).take k)) (cL P (at0 (eJ (fW l P) P.length) k)).a.toNat=at0 (kI l.length P ((eJ (fW l P) P.length).take k)) (cL P (at0 (eJ (fW l P) P.length) k)).b.toNat
   .rw[aH O,jX]at f;simp[O];unfold HQ;simp(disch:=omega) [bJ];exact next o g _ ⟨⟨J,by omega⟩,F,i,by rw[f];exact H⟩
   .rw[aD O]at f;obtain⟨o2,m3,a1,a2,-,-,a3,a4⟩:=H.app (bytes:=8) (id0:=(0,Y+1+14,46)) gE (by omega) ⟨rfl,rfl⟩ (by unfold cQ;omega) (at0 (eJ (fW l P) P.length) k);simp[O,nB];rw[show ∀x:Int,elems g.get 1 (.aQ [I x] 1 true)=some (intE x,1)from λ_=>rfl,a1];unfold HQ;simp(disch:=omega) [bJ];refine next o2 m3 _ ⟨⟨by rw[a4 _ (by unfold pR;simp)];exact J,by omega⟩,F.frame λj e=>a4 j (by obtain⟨E,h2⟩:=e;unfold pR;omega),i.frame λj e=>a4 j (by have hj':j.1=t:=e;unfold pR;omega),by rw[f];exact a2⟩
  .rintro n o m Y ⟨⟨h,hmn⟩,hO,X,A⟩;rw[dU (bT _)]at A;have hTL:jO P (freshM l.length) (eJ (fW l P) P.length)=yX (fW l P) l.length P:=rfl;rw[hTL]at A;have hlen:=(xf8 u.pr (fW l P)).len u.pr;obtain⟨g,L,i,e3,e4⟩:=xjk (d+1) [] (by omega) A;obtain⟨s1,s2⟩:=x3h (xf7 (n:=l.length) (P:=P) (fW l P));have K:iQ (λx y=>decide (x<y)) ((yX (fW l P) l.length P).length-1) (yX (fW l P) l.length P)=jR (fW l P) l.length P:=s1.one (xf5 _) λx=>(s2 x).trans light_mem.symm
   rw[K]at i;simp only[Y6];unfold QI uy;simp[L];obtain⟨v,E,h2⟩:=i.sl1 4;exact RetF.mk h2 E
def xnz(d:Nat){s p:AV}{l:List Scene}{P:List Pq}(Z:Sl Scene.c s l)(a:Sl Pq.c p P)(b:Right7 l P)(e:l.length<=12)(f:P.length<=19)(m:Mem) :
    ∃v,Ints v (jR (fW l P) l.length P)/\aI (aG (d+7)) P0 [.agg [s,p]] m=some (v,m):=
 qF (by simp[Z.aP,a.aP]) (ycv d Z a b e f) m
end Go.Ix
namespace Go.Ix
variable{α:Type}{z:Nat}{enc:α->List AV}
def xcv(a:∀x,(enc x).length=z)(x:α):∀(l:List α) (k:Nat),k<l.length->cR (l.flatMap enc) (k*z) (enc x)=(l.set k x).flatMap enc
 |[],_,h=>by simp at h
 |y::r,0,_=>by simp only[cR,xF,bO,jB,iX,List.set_cons_zero,dN];rw[a,<-a y,yc9 (bT _),lU (bT _),iX]
 |y::r,k+1,h=>by have b:=xcv a x r k (by simpa using h);simp only[cR,NQ,dN]at b ⊢;rw[lR,show k*z+z=(enc y).length+k*z by rw[a];omega,je,pA,H1,sB,<-b];have e:(enc y).length+(k*z+(enc x).length)-(enc y).length=k*z+(enc x).length:=(by omega);rw[e,lU (by omega),iX]
open Go.Proofs
def bE(b:Bool):List AV:=[B b]
theorem yb7(b:Bool):(bE b).length=1:=rfl
variable{α:Type}{z:Nat}{enc:α->List AV}
def Ow(a:α->List AV)(m:Mem)(id:Id)(l:List α):Prop:=m.get id=some (.row (l.flatMap a) 0 false)
def Ow.fr{m a:Mem}{id:Id}{l:List α}(h:Ow enc m id l)(e:a.get id=m.get id):Ow enc a id l:=by unfold Ow;rw[e];exact h
def xx5{id:Id}{n:Nat}{k:Int}(a:0<=k)(b:k<n):aT z (.sref id 0 0 n z true) (I k)=some (.ptr id 0 (k.toNat*z)):=by simp[aT,dI,a,b]
def Ow.ld(a:∀x,(enc x).length=z){m:Mem}{id:Id}{l:List α}(h:Ow enc m id l){k:Nat}(b:k<l.length){g:Bool}:aA g z (.ptr id 0 (k*z)) m=rd g z (enc l[k]++(l.drop (k+1)).flatMap enc):=by rw[aM h,zG a,fT b,dN]
def Ow.st(a:∀x,(enc x).length=z){m:Mem}{id:Id}{l:List α}(h:Ow enc m id l){k:Nat}(d:k<l.length){x:α}{v:AV}(b:v.cells=enc x)(e:(enc x).all AV.one=true) :
    (∀{R:Type} (K:Mem->Option R),aZ z (.ptr id 0 (k*z)) v m K=K (m.set id (.row ((l.set k x).flatMap enc) 0 false)))/\Ow enc (m.set id (.row ((l.set k x).flatMap enc) 0 false)) id (l.set k x):=by
 refine⟨λK=>?_,by unfold Ow;simp⟩;have f:=iE a l;rw[mA (z:=z) (x:=v) (k:=K) h (by rw[b,a]) (by rw[f];have:=oC z (show k+1<=l.length from d);rw[lR]at this;exact this) (by rw[b];exact e),b,xcv a x l k d]
def xmi{z:List AV}{c:AV}(a:∀i,i<z.length->z.getD i (.sc undef)=c)(b:0<z.length)(k:Nat):eV z k=List.replicate k c:=by
 unfold eV;apply HH
 .simp
 .intro i d e;simp only[X8,List.getElem_range,List.getElem_replicate];exact a _ (tQ _ b)
def xsd(n:Nat)(c:AV)(x:α)(a:enc x=List.replicate z c):(List.replicate n x).flatMap enc=List.replicate (n*z) c:=by
 induction n with
 |zero=>simp
 |succ n b=>rw[xkr,dN,b,a,lR,iz,List.replicate_append_replicate]
def xfk{R:Type}{b:List AV}{c:AV}{a:Nat}(d:a<=64)(e:b.length=z)(f:∀i,i<b.length->b.getD i (.sc undef)=c)(g:0<b.length){x:α}(h:enc x=List.replicate z c){n:Nat}(j:n<=1000000)(id:Id)(m:Mem)(k:AV->Mem->Option R) :
    sJ b z a (I n) (I n) id m k=k (.sref id 0 0 n z true) (m.new id (.row ((List.replicate n x).flatMap enc) 0 false)):=by
 have l:a*n<=64*1000000:=G6 d j;simp only[sJ,dI];rw[aH ⟨by omega,OE _,by omega,by omega⟩,xmi f g,xsd n c x h];simp
def IY:JC=[B false]:=by kernel_rfl
def x0h{R:Type}{n:Nat}(b:n<=1000000)(id:Id)(m:Mem)(k:AV->Mem->Option R):sJ JC 1 1 (I n) (I n) id m k=k (.sref id 0 0 n 1 true) (m.new id (.row ((List.replicate n false).flatMap bE) 0 false)):=
 xfk (enc:=bE) (c:=B false) (by omega) (by rw[IY];rfl) (by rw[IY];intro i a;simp at a;subst a;rfl) (by rw[IY];simp) rfl b id m k
def x0g{R:Type}{n:Nat}(b:n<=1000000)(id:Id)(m:Mem)(k:AV->Mem->Option R):sJ iN 1 8 (I n) (I n) id m k=k (.sref id 0 0 n 1 true) (m.new id (.row ((List.replicate n (0:Int)).flatMap intE) 0 false)):=
 xfk (enc:=intE) (c:=I 0) (by omega) (by rw[nB];rfl) (by rw[nB];intro i a;simp at a;subst a;rfl) (by rw[nB];simp) rfl b id m k
def Ow.ldB{m:Mem}{id:Id}{l:List Bool}(h:Ow bE m id l){k:Int}(b:0<=k)(d:k<l.length):aA false 1 (.ptr id 0 k.toNat) m=some (B (l.getD k.toNat false)):=by have a:k.toNat<l.length:=(by omega);have:=h.ld yb7 a (g:=false);rw[oB]at this;rw[this,eU,eY a];rfl
def Ow.ldI{m:Mem}{id:Id}{l:List Int}(h:Ow intE m id l){k:Int}(b:0<=k)(d:k<l.length):aA false 1 (.ptr id 0 k.toNat) m=some (I (at0 l k.toNat)):=by have a:k.toNat<l.length:=(by omega);have:=h.ld gE a (g:=false);rw[oB]at this;rw[this,fD a];rfl
def DC{id:Id}{n:Nat}{k:Int}(a:0<=k)(b:k<n):aT 1 (.sref id 0 0 n 1 true) (I k)=some (.ptr id 0 k.toNat):=by simpa using xx5 (z:=1) (id:=id) a b
def Ow.st1{g:α->AV}(a:∀x,enc x=[g x]){m:Mem}{id:Id}{l:List α}(h:Ow enc m id l){k:Int}(e:0<=k)(f:k<l.length){x:α}(b:(g x).cells=[g x])(d:(g x).one=true) :
    (∀{R:Type} (K:Mem->Option R),aZ 1 (.ptr id 0 k.toNat) (g x) m K=K (m.set id (.row ((l.set k.toNat x).flatMap enc) 0 false)))/\Ow enc (m.set id (.row ((l.set k.toNat x).flatMap enc) 0 false)) id (l.set k.toNat x):=by
 have:=h.st (z:=1) (λx=>by rw[a];rfl) (k:=k.toNat) (by omega) (x:=x) (v:=g x) (by rw[b,a]) (by rw[a];simp[d]);simpa using this
def GkF(ok:Id->Prop)(m:Mem)(a:AV)(l:List Int):Prop:=(a=nilS/\l=[])\/∃id d b,ok id/\a=.sref id d 0 l.length 1 true/\m.get id=some (.row (l.flatMap intE) d b)
def GkF.frame{ok:Id->Prop}{m m':Mem}{a:AV}{l:List Int}(h:GkF ok m a l)(d:∀id,ok id->m'.get id=m.get id):GkF ok m' a l:=by
 rcases h with h|⟨id,ver,b,h0,h1,h2⟩
 .exact Or.inl h
 .exact Or.inr ⟨id,ver,b,h0,h1,by rw[d _ h0];exact h2⟩
def BestI(f:Int->Int)(S:List Int)(i:Nat)(b:Int):Prop:=(b=-1/\∀j:Nat,j<i->(j:Int)∈S)\/((0<=b/\b<i)/\b∉S/\∀j:Nat,j<i->(j:Int)∉S->(j:Int)=b\/lx f b j)
def BestI.fin{f:Int->Int}{N:Nat}{k:Nat}{b:Int}(h:BestI f ((eJ f N).take k) N b)(x:k<N):b=at0 (eJ f N) k:=by
 have y:=bg f N;have i:=A0 f N;have a:k<(eJ f N).length:=(by omega);have l:=(InN.get (ord_rng (f:=f) (N:=N)) a);have m:=i.nodup;have d:at0 (eJ f N) k∉(eJ f N).take k:=λt=>by obtain⟨j,u,e⟩:=zT.mp t;rw[NS,fD a]at e;simp at u;exact yc4.mp m j k (by omega) a (by omega) e
 rcases h with ⟨r,n⟩|⟨r,n,w⟩
 .have:=n (at0 (eJ f N) k).toNat (by omega);rw[J3 l.1]at this;exact absurd this d
 .have o:=w (at0 (eJ f N) k).toNat (by omega) (by rw[J3 l.1];exact d);rw[J3 l.1]at o;rcases o with e|e
  .exact e.symm
  .have p:b∈eJ f N:=(i.2 b).mpr r;rw[<-G7 k (eJ f N),jC]at p;have g:=p.resolve_left n;rw[fT a,eD]at g;rcases g with e2|e2
   .rw[fD a];exact e2
   .have Z:=i.1;rw[<-G7 k (eJ f N),fT a]at Z;have:=(vM.mp (X6.mp Z).2.1).1 b e2;rw[fD a]at e;exact(xf0 _ _ this e).elim
def DoneI(f:Int->Int)(N k:Nat)(D:List Bool):Prop:=D.length=N/\∀i:Nat,i<N->D.getD i false=decide ((i:Int)∈(eJ f N).take k)
def DoneI.next{f:Int->Int}{N k:Nat}{D:List Bool}(h:DoneI f N k D)(e:k<N):DoneI f N (k+1) (D.set (at0 (eJ f N) k).toNat true):=by
 have g:=bg f N;have a:k<(eJ f N).length:=(by omega);have j:=InN.get (ord_rng (f:=f) (N:=N)) a;refine⟨by simp[h.1],λi d=>?_⟩;rw[jV a,<-fD a,eU,HE];have b:=h.2 i d;rw[eU]at b;by_cases c:(at0 (eJ f N) k).toNat=i
 .rw[aH c,aH (by rw[h.1];omega)];have:(i:Int)=at0 (eJ f N) k:=(by omega);simp[this]
 .rw[aD c,b];have:¬(i:Int)=at0 (eJ f N) k:=(by omega);simp[this]
def xas:JD=[I 0,I 0]:=by kernel_rfl
def xob(d:Nat){s p:AV}{P:List Pq}(Z:s.one=true/\aP s=true)(a:Sl Pq.c p P){x:Sp}(e:0<=x.p/\x.p<P.length)(m:Mem) :
    aI (aG (d+1)) DL [.agg [s,p],.agg [I x.p,I x.s]] m=some (.tup [I (fB P x),I (cY P x)],m):=by
 refine dT (by simp[Z.2,a.aP]) ?_ m;have f:=a.ixz Pq.len e.1 e.2;have b:=λm=>iP (m:=m) (enc:=Pq.c) Pq.len (by omega) (show x.p.toNat<P.length by omega)
 rw[<-LE (by omega)]at b;unfold fB cY;generalize cL P x.p=q at *
 simp only[Pq.c]at b;rw[x7r];unfold md QR;by_cases c:x.s<0
 .simp[mem0,Z.1,a.one,f,b,f6,c];exact RetF.tup rfl rfl
 .simp[mem0,Z.1,a.one,f,b,f6,c];exact RetF.tup rfl rfl
def idY:Id:=(0,5,21)
def idS:Id:=(0,10,25)
structure WM (s p:AV) (st:RSt) (m:Mem):Prop where
 b4:m.get (0,0,4)=some (.row [s,p] 0 false)
 oY:Ow Sp.c m idY st.y
 oS:Ow bE m idS st.k
def WM.fr{s p:AV}{st:RSt}{m a:Mem}(h:WM s p st m)(e:∀j:Id,j=(0,0,4)\/j=idY\/j=idS->a.get j=m.get j):WM s p st a:=
 ⟨by rw[e _ (.inl rfl)];exact h.b4,h.oY.fr (e _ (.inr (.inl rfl))),h.oS.fr (e _ (.inr (.inr rfl)))⟩
def OutS(m:Mem)(a:AV)(l:List Sp):Prop:=Sl Sp.c a l\/∃id:Id,id.1=0/\id.2.2=85/\a=.sref id 0 0 l.length 2 true/\Ow Sp.c m id l
def OutS.elems{m:Mem}{a:AV}{l:List Sp}(h:OutS m a l):elems m.get 2 a=some (l.flatMap Sp.c,l.length):=by
 rcases h with h|⟨id,-,-,rfl,h⟩
 .exact h.elems Sp.len m.get
 .have b:=iE Sp.len l;unfold Go.Ix.elems;simp only
  unfold Ow at h;rw[h];simp only
  rw[aH ⟨trivial,trivial,by omega⟩,bA,dU (by omega)]
def OutS.frz{m:Mem}{a:AV}{l:List Sp}(h:OutS m a l)(k:Nat):∃b,Sl Sp.c b l/\Go.Ix.frz m.get (k+2) a=some b:=by
 rcases h with h|⟨id,-,-,rfl,h⟩
 .exact⟨a,h,kD _ k h.bG⟩
 .exact⟨_,Sl.lit l false,eg (k:=k) Sp.len Sp.bG h⟩
def xm3:xa1=[I 0,I 0]:=by kernel_rfl
def x3z:kK prog xU (.agg [I 1,I (-1)]) (I 0)=some (I 1):=by kernel_rfl
def x3y:kK prog xU (.agg [I 1,I (-1)]) (I 1)=some (I (-1)):=by kernel_rfl
def xn8(d:Nat){s p f:AV}{l:List Scene}{P:List Pq}{F:List Int}(Z:Sl Scene.c s l)(b:Sl Pq.c p P)(a:Ints f F)(v:Int)(m:Mem) :
    aI (aG (d+1)) DK [.agg [s,p],I v,f] m=some (.clo yL [.aF [f],.aF [s,p],.aF [I v]],m):=by
 refine dT (by simp[Z.aP,b.aP,a.bG]) ?_ m;rw[x7q];unfold ma QQ;simp[mem0,Z.one,b.one,a.one,a.cells];generalize e:Mem.new _ _ _=m1;have g:m1.get (0,2,5)=some (.row [f] 0 false):=(by rw[<-e];simp);have h:m1.get (0,0,3)=some (.row [s,p] 0 false):=(by rw[<-e];simp);have i:m1.get (0,1,4)=some (.row [I v] 0 false):=(by rw[<-e];simp);have j:Go.Ix.frz m1.get 5 (.ptr (0,2,5) 0 0)=some (.aF [f]):=xhw g (kD _ 2 a.bG);have n:Go.Ix.frz m1.get 5 (.ptr (0,1,4) 0 0)=some (.aF [I v]):=xhw i rfl;have o:Go.Ix.frz m1.get 5 (.ptr (0,0,3) 0 0)=some (.aF [s,p]):=(by rw[xhv h];simp only[bA,eG,fZ,kD m1.get 2 Z.bG,kD m1.get 2 b.bG];rfl);refine RetF.mk (a':=.clo yL [.aF [f],.aF [s,p],.aF [I v]]) ?_ rfl;show(([AV.ptr (0,2,5) 0 0,.ptr (0,0,3) 0 0,.ptr (0,1,4) 0 0].mapM (Go.Ix.frz m1.get 5)).map λl=>AV.clo _ l)=_;simp only[eG,fZ,j,n,o];rfl
def xqa{F:List Int}{k:Nat}(a:k<F.length):qW (F.take (k+1))=qW (F.take k)++[⟨at0 F k,1⟩]++[⟨at0 F k,-1⟩]:=by unfold qW;rw[jV a,xJ,fD a];simp
def ybe(d:Nat){y:FHs}{id:Id}{h:List AV->Mem->Option Mem}{s p f:AV}{l:List Scene}{P:List Pq}{F:List Int}(Z:Sl Scene.c s l)(hp:Sl Pq.c p P)(hf:Ints f F)(hF:F.length<=1000)(hr:∀i∈F,0<=i/\i<P.length)(hl:tG y id=some h)(v:Int){H:Mem}(b:List Sp->Mem->Prop)(t:Mem->Prop)(Q:∀a m g,b a m->g.next=m.next->(∀i:Id,¬i.1=H.next->g.get i=m.get i)->b a g)(hy:∀a x m,kG F x->fB P x=v->b a m->∃e,h [.agg [I x.p,I x.s],I (cY P x)] m=some e/\(mE e.get id=true/\b (a++[x]) e\/mE e.get id=false/\t e))(hn:∀a x m,kG F x->fB P x≠v->b a m->b (a++[x]) m)(h0:∀m,m.next=H.next+1->(∀i:Id,m.get i=H.get i)->b [] m) :
    ∃g,aG (d+2) y yL [.yld id,.aF [f],.aF [s,p],.aF [I v]] H=some (.tup [],g)/\(b (qW F) g\/t g):=by
 rw[x7p];unfold lz QN;generalize hu:H.next=u at *
 simp only[w8,cE,aE,hf.len jZ];refine nQ (N:=F.length) (σ:=Unit) (λn k _ m Y=>zZ (aG (d+1)) y u n (.yld id) (.aF [s,p]) (.aF [I v]) f (I F.length) (I k) m Y) (λk _ m=>b (qW (F.take k)) m)
  (λr=>∃g,r=some (.tup [],g)/\(b (qW F) g\/t g)) ?_ ?_ NN 0 () _ _ (by omega) (by rw[cU];omega) (by simpa[qW]using h0 ⟨H.hp,u+1⟩ rfl (λ_=>rfl))
 .rintro n k-m Y J O next;have hk':(k:Int)<(F.length:Int):=(by omega);have ix:=hf.ix gE J;have ld:=λm=>nS (m:=m) J
  have A:at0 F k∈F:=(by rw[fD J];exact eX J);have hx:=hr _ A;have hsc:=xqa J;generalize at0 F k=i at *
  simp only[zZ];unfold QO ve;simp only[bQ,hk',bC,aR,aE,ix,ld,xm3];rw[show cW [I 0,I 0] [(0,1,I 1),(1,1,I (-1))]=some (.agg [I 1,I (-1)]) by simp[cW,jG]];simp only[aE];have one:∀(sg:Int) (q:Int) (a:List Sp) (m:Mem) (Y R:Nat),(sg=1\/sg=-1)->q<2->0<=q->kK prog xU (.agg [I 1,I (-1)]) (I q)=some (I sg)->b a m ->
   (∀g X,b (a++[⟨i,sg⟩]) g->∃e,H5 (aG (d+1)) y u (zZ (aG (d+1)) y u n) R (.yld id) (.aF [s,p]) (.aF [I v]) (I i) f (I F.length) (I k) (.agg [I 1,I (-1)]) (I (q+1)) g X=some (.tup [],e)/\(b (qW F) e\/t e)) ->
   ∃e,H5 (aG (d+1)) y u (zZ (aG (d+1)) y u n) (R+1) (.yld id) (.aF [s,p]) (.aF [I v]) (I i) f (I F.length) (I k) (.agg [I 1,I (-1)]) (I q) m Y=some (.tup [],e)/\(b (qW F) e\/t e):=by
   intro sg q a m Y R hsg hq2 hq0 K hI2 go;have L:kG F ⟨i,sg⟩:=⟨A,hsg⟩;have he:=λm=>xob d ⟨Z.one,Z.aP⟩ hp (x:=⟨i,sg⟩) hx m
   simp only[H5];unfold QP;simp only[bQ,hq2,bC,aR,aE,K,xas];rw[show cW [I 0,I 0] [(0,1,I i),(1,1,I sg)]=some (.agg [I i,I sg]) by simp[cW,jG]];simp;generalize E:Mem.set _ _ _=w;have q9:w.get (u,Y+6,9)=some (.row [I i,I sg] 0 false):=(by rw[<-E];simp);have M:b a w:=Q a m w hI2 (by rw[<-E];rfl) λj hj=>by rw[<-E,Mem.cP,aD (by rintro rfl;exact hj rfl),Mem.dP,aD (by rintro rfl;exact hj rfl)]
   simp[he];rw[bJ];by_cases c:fB P ⟨i,sg⟩=v
   .obtain⟨e,W,C⟩:=hy a ⟨i,sg⟩ w L c M;have o:fI (aG (d+1)) y 2 (.yld id) [.agg [I i,I sg],I (cY P ⟨i,sg⟩)] w=some (B (mE e.get id),e):=by
     show(match tG y id with
      |some h=>(h [.agg [I i,I sg],I (cY P ⟨i,sg⟩)] w).map λ(g:Mem)=>(B (mE g.get id),g)
      |none=>none)=_
     rw[hl];simp only
     rw[W];rfl
    rcases C with ⟨D,C⟩|⟨D,C⟩
    .rw[D]at o;simp[c,q9,o];exact go e _ C
    .rw[D]at o;simp[c,q9,o];exact .inr C
   .simp[c];exact go w _ (hn a ⟨i,sg⟩ w L c M)
  obtain⟨NM,hNM⟩:∃NM,NN=NM+1+1+1:=⟨NN-3,by have:=cU;omega⟩;rw[hNM];refine one 1 0 _ m _ _ (.inl rfl) (by omega) (by omega) x3z O λw fc1 W=>?_
  refine one (-1) 1 _ w _ _ (.inr rfl) (by omega) (by omega) x3y W λe fc2 C=>?_
  simp only[H5];unfold QP vf;simp(disch:=omega) [bJ];exact next () e _ (by rw[hsc];exact C)
 .rintro n-m Y O;rw[dU (bT _)]at O;simp only[zZ];unfold QO;simp;exact .inl O
def ybf(d:Nat){hh:FHs}{id:Id}{h:List AV->Mem->Option Mem}{s p f:AV}{l:List Scene}{P:List Pq}{F:List Int}(Z:Sl Scene.c s l)(w:Sl Pq.c p P)(y:Ints f F)(A:F.length<=1000)(C:∀i∈F,0<=i/\i<P.length)(D:tG hh id=some h)(v:Int){m0:Mem}(g:List Sp->Mem->Prop)(o:∀e m j,g e m->j.next=m.next->(∀i:Id,¬i.1=m0.next->j.get i=m.get i)->g e j)(E:∀e x m,kG F x->fB P x=v->g e m->∃n,h [.agg [I x.p,I x.s],I (cY P x)] m=some n/\g (e++[x]) n)(H:∀e x m,kG F x->fB P x≠v->g e m->g (e++[x]) m)(J:∀m,m.next=m0.next+1->(∀i:Id,m.get i=m0.get i)->g [] m)(r:id.2.2=0:=by rfl) :
    ∃j,aG (d+2) hh yL [.yld id,.aF [f],.aF [s,p],.aF [I v]] m0=some (.tup [],j)/\g (qW F) j:=by
 obtain⟨j,t,u⟩:=ybe d Z w y A C D v g (λ_=>False) o (λe x m a b c=>by
  obtain⟨n,t,u⟩:=E e x m a b c
  exact⟨n,t,.inl ⟨by unfold mE;rw[r];rfl,u⟩⟩) H J
 exact⟨j,t,u.resolve_right λx=>x⟩
end Go.Ix
namespace Go.Ix
variable{P:List Pq}{n:Nat}{F:List Int}
def yca{l:List Int}{b v:Int}{x:Int}(a:0<=b)(d:b<l.length)(e:0<=v):at0 (l.set b.toNat x) v.toNat=if v=b then x else at0 l v.toNat:=by
 unfold at0;rw[eU,eU,HE];by_cases c:v=b
 .rw[aH c,c,aH rfl,aH (by omega)];rfl
 .rw[aD c,aD (by omega)]
def unk(K:List Bool):Nat:=(K.filter λb=>!b).length
def ZC:∀{K:List Bool} {k:Nat},k<K.length->K.getD k false=false->unk (K.set k true)+1=unk K
 |[],_,h,_=>by simp at h
 |b::r,0,_,a=>by simp at a;subst a;simp[unk]
 |b::r,k+1,h,a=>by have:=ZC (K:=r) (k:=k) (by simpa using h) (by simpa using a);unfold unk at this ⊢;rw[NQ];cases b<;>simp<;>omega
def xbv:∀{K L:List Bool},K.length=L.length->(∀k,k<K.length->K.getD k false=true->L.getD k false=true)->unk L<=unk K
 |[],[],_,_=>bT _
 |[],_::_,h,_=>by simp at h
 |_::_,[],h,_=>by simp at h
 |a::r,b::s,h,g=>by
  have e:=xbv (K:=r) (L:=s) (by simpa using h) λk d=>by have:=g (k+1) (by simpa using d);simpa using this
  have f:=g 0 (by simp);simp only[xk3]at f;unfold unk at e ⊢;cases a with
  |true=>rw[f rfl];exact e
  |false=>
   cases b
   .show(r.filter λb=>!b).length+1 ≥ (s.filter λb=>!b).length+1;omega
   .show(s.filter λb=>!b).length<=(r.filter λb=>!b).length+1;omega
structure DS (n:Nat) (φ:Int->Int) (O:List Int) (K:List Bool):Prop where
 lo:O.length=n
 lk:K.length=n
 kn:∀v:Int,0<=v->v<n->boA K v=true->at0 O v.toNat=φ v
def Un(n:Nat)(O:List Int)(K:List Bool)(a:Int):Prop:=∀v:Int,0<=v->v<n->v≠a->boA K v=false->at0 O v.toNat=0
def Sub(n:Nat)(K L:List Bool):Prop:=∀v:Int,0<=v->v<n->boA K v=true->boA L v=true
def Sub.unk{K L:List Bool}(h:Sub n K L)(b:K.length=n)(d:L.length=n):unk L<=unk K:=xbv (by omega) λk a e=>by have:=h (k:Int) (by omega) (by omega) (by unfold boA;simpa using e);unfold boA at this;simpa using this
def Clo(P:List Pq)(F:List Int)(K L:List Bool):Prop:=∀x,kG F x->boA K (fB P x)=false->boA L (fB P x)=true->boA L (cY P x)=true
def Cls(P:List Pq)(F:List Int)(K:List Bool):Prop:=∀x,kG F x->boA K (fB P x)=true->boA K (cY P x)=true
def Clo.trans(b:∀p∈P,PqIn n p)(d:∀i∈F,0<=i/\i<P.length){K L M:List Bool}(h:Clo P F K L)(e:Clo P F L M)(Z:Sub n L M):Clo P F K M:=λx a f g=>by
 cases c:boA L (fB P x)with
 |true=>exact Z _ (vC b d a).2.1 (vC b d a).2.2 (h x a f c)
 |false=>exact e x a c g
def Cls.grow(b:∀p∈P,PqIn n p)(d:∀i∈F,0<=i/\i<P.length){K L:List Bool}(h:Cls P F K)(e:Clo P F K L)(Z:Sub n K L):Cls P F L:=λx a f=>by
 cases c:boA K (fB P x)with
 |true=>exact Z _ (vC b d a).2.1 (vC b d a).2.2 (h x a c)
 |false=>exact e x a c f
def Cls.walk{K:List Bool}(h:Cls P F K):∀{w:List Sp} {a b:Int},Wk P w a b->AllF F w->boA K a=true->boA K b=true
 |[],_,_,d,_,e=>by cases d;exact e
 |x::r,a,b,d,f,e=>Cls.walk h d.2 f.tail (h x f.head (by rw[d.1];exact e))
def xsa(b:∀p∈P,PqIn n p)(d:For n P F){K:List Bool}(h:Cls P F K){i:Nat}(e:i<n)(f:∀j:Nat,j<i->boA K j=true)(g:boA K i=false):at0 (joinsM (freshM n) (prs P F)) i=i:=by have m:=(Lab.fresh n).joins (pP b d.rng);obtain⟨t,u,o⟩:=m.ok i e;apply Classical.byContradiction;intro l;obtain⟨w,r,a⟩:=xgq b d.rng (v:=(at0 (joinsM (freshM n) (prs P F)) i).toNat) (w:=i) (by omega) e (by unfold Sm;exact o);have:=h.walk r a (f _ (by omega));rw[g]at this;cases this
def mC(n:Nat)(φ:Int->Int):List Int:=(List.range n).map λ(v:Nat)=>φ v
def rJ(n:Nat)(φ:Int->Int):(mC n φ).length=n:=by simp[mC]
def LH{φ:Int->Int}{v:Int}(a:0<=v)(b:v<n):at0 (mC n φ) v.toNat=φ v:=by rw[fD (by rw[rJ];omega)];simp[mC];rw[Int.max_eq_left a]
def DS.all{φ:Int->Int}{O:List Int}{K:List Bool}(h:DS n φ O K)(b:∀j:Nat,j<n->boA K j=true):O=mC n φ:=by
 apply HH
 .rw[h.lo,rJ]
 .intro i a e;have d:i<n:=(by rw[<-h.lo];exact a);have:=h.kn i (by omega) (by omega) (b i d);rw[gA,fD a]at this;rw[this];simp[mC]
open Go.Proofs
def Clo.refl{P:List Pq}{F:List Int}{K:List Bool}:Clo P F K K:=λx _ b a=>by rw[b]at a;cases a
def idA:Id:=(0,7,14)
def idK:Id:=(0,12,19)
structure SM (s p f v:AV) (n:Nat) (O:List Int) (K:List Bool) (m:Mem):Prop where
 b2:m.get (0,0,2)=some (.row [s,p] 0 false)
 b3:m.get (0,1,3)=some (.row [f] 0 false)
 b5:m.get (0,13,5)=some (.row [.sref idA 0 0 n 1 true] 0 false)
 b6:m.get (0,14,6)=some (.row [.sref idK 0 0 n 1 true] 0 false)
 b7:m.get (0,19,7)=some (.row [v] 0 false)
 b8:m.get (0,21,8)=some (.row [.clo wD [.ptr (0,14,6) 0 0,.ptr (0,0,2) 0 0,.ptr (0,19,7) 0 0,.ptr (0,13,5) 0 0,.ptr (0,1,3) 0 0,.ptr (0,21,8) 0 0]] 0 false)
 oA:Ow intE m idA O
 oK:Ow bE m idK K
 nx:1<=m.next
def SM.fr{s p f v:AV}{n:Nat}{O:List Int}{K:List Bool}{m b:Mem}(h:SM s p f v n O K m)(d:1<=b.next)(a:∀j:Id,j.1=0->b.get j=m.get j):SM s p f v n O K b:=
 ⟨by rw[a _ rfl];exact h.b2,by rw[a _ rfl];exact h.b3,by rw[a _ rfl];exact h.b5,by rw[a _ rfl];exact h.b6,by rw[a _ rfl];exact h.b7,by rw[a _ rfl];exact h.b8,h.oA.fr (a _ rfl),h.oK.fr (a _ rfl),d⟩
def F6:List AV:=[.ptr (0,14,6) 0 0,.ptr (0,0,2) 0 0,.ptr (0,19,7) 0 0,.ptr (0,13,5) 0 0,.ptr (0,1,3) 0 0,.ptr (0,21,8) 0 0]
def OI(m a:Mem):Prop:=∀j:Id,1<=j.1->j.1<m.next->a.get j=m.get j
def ya8(d:Nat){s p f v:AV}{l:List Scene}{P:List Pq}{F ph:List Int}(Z:Sl Scene.c s l)(hp:Sl Pq.c p P)(hf:Ints f ph)(hv:Ints v F)(hl:l.length<=60)(hP:∀p∈P,PqIn l.length p)(hF:For l.length P F)(hph:ph.length=P.length){φ:Int->Int}(hpot:Pot l.length P F (λi=>at0 ph i.toNat) φ){M:Nat}(hM:∀i∈F,(at0 ph i.toNat).natAbs<=M)(hMb:M<=10000000000):∀(k:Nat) (hh:FHs) (a:Int) (m:Mem) (O:List Int) (K:List Bool),SM s p f v l.length O K m->DS l.length φ O K->(0<=a/\a<l.length)->boA K a=false->at0 O a.toNat=φ a->Un l.length O K a->unk K<=k ->
    ∃R n b,aG (d+3+k) hh wD (I a::F6) m=some (.tup [],R)/\SM s p f v l.length n b R/\DS l.length φ n b/\Un l.length n b a/\Sub l.length K b/\Clo P F K b/\boA b a=true/\m.next<=R.next/\OI m R:=by
 have hFl:=hF.len hP;intro k;induction k with
 |zero=>intro hh a m O K hS hD N hka _ _ hu;have X:=ZC (K:=K) (k:=a.toNat) (by rw[hD.lk];omega) hka;omega
 |succ k ih=>
  intro hh a m O K hS hD N hka hoa hun hu;suffices main:∀Q:O2->Prop,(∀R n b,SM s p f v l.length n b R->DS l.length φ n b->Un l.length n b a->Sub l.length K b->Clo P F K b->boA b a=true->m.next<=R.next->OI m R->Q (some (.tup [],R)))->Q (aG (d+3+(k+1)) hh wD (I a::F6) m)from
   main (λr=>∃R n b,r=some (.tup [],R)/\SM s p f v l.length n b R/\DS l.length φ n b/\Un l.length n b a/\Sub l.length K b/\Clo P F K b/\boA b a=true/\m.next<=R.next/\OI m R) λR n b X D h3 h4 h5 h6 h7 h8=>⟨R,n,b,rfl,X,D,h3,h4,h5,h6,h7,h8⟩
  intro Q hQ;rw[show d+3+(k+1)=(d+3+k)+1 by omega,x7i];unfold F6 lg QC;generalize hU:m.next=u;have hu1:1<=u:=(by rw[<-hU];exact hS.nx);simp only[fN,gf,dQ,lJ,oM,gC,bB];generalize hm1:Mem.new _ _ _=m1;have g7:m1.get (u,0,7)=some (.row [I a] 0 false):=(by rw[<-hm1];simp);have J:SM s p f v l.length O K m1:=hS.fr (by rw[<-hm1];show 1<=u+1;omega) λj hj=>by rw[<-hm1,Mem.dP,aD (by rintro rfl;simp only at hj;omega)];rfl
  have hm1n:m1.next=u+1:=(by rw[<-hm1];rfl);have hm1f:OI m m1:=λj X D=>by rw[<-hm1,Mem.dP,aD (by rintro rfl;rw[hU]at D;exact Nat.lt_irrefl _ D)];rfl
  have ixK:aT 1 (.sref idK 0 0 l.length 1 true) (I a)=some (.ptr idK 0 a.toNat):=DC N.1 N.2;obtain⟨st1,st2⟩:=J.oK.st1 (g:=B) (λ_=>rfl) (k:=a) N.1 (by rw[hD.lk];exact N.2) (x:=true) rfl rfl;simp only[jF,J.b6,g7,U2,zQ,bB,bA,cE,aE,ixK,st1];generalize hm2:Mem.set _ _ _=m2 at st2;obtain⟨K1,hK1⟩:∃K1,K1=K.set a.toNat true:=⟨_,rfl⟩;rw[<-hK1]at st2;have o:∀j:Id,j≠idK->m2.get j=m1.get j:=λj hj=>by rw[<-hm2,Mem.cP,aD hj]
  have hS2:SM s p f v l.length O K1 m2:=⟨by rw[o _ (by simp[idK])];exact J.b2,by rw[o _ (by simp[idK])];exact J.b3,by rw[o _ (by simp[idK])];exact J.b5,by rw[o _ (by simp[idK])];exact J.b6,by rw[o _ (by simp[idK])];exact J.b7,by rw[o _ (by simp[idK])];exact J.b8,
   J.oA.fr (o _ (by simp[idK,idA])),st2,by rw[<-hm2];exact J.nx⟩
  have hm2n:m2.next=u+1:=(by rw[<-hm2];exact hm1n);have g7':m2.get (u,0,7)=some (.row [I a] 0 false):=(by rw[o _ (by unfold idK;simp only[ne_eq,bH,not_and];omega)];exact g7);have hkb:∀w:Int,0<=w->boA K1 w=if w=a then true else boA K w:=λw t=>by rw[hK1,W7 N.1 (by rw[hD.lk];exact N.2) t]
  have hu2:=ZC (K:=K) (k:=a.toNat) (by rw[hD.lk];omega) hka;rw[<-hK1]at hu2
  have hD1:DS l.length φ O K1:=⟨hD.lo,by rw[hK1];simp[hD.lk],λw E W t=>by
   rw[hkb w E]at t
   by_cases c:w=a
   .rw[c];exact hoa
   .rw[aD c]at t;exact hD.kn w E W t⟩
  have hUn1:Un l.length O K1 a:=λw E W hne t=>by rw[hkb w E,aD hne]at t;exact hun w E W hne t
  have hsub1:Sub l.length K K1:=λw E W t=>by
   rw[hkb w E];split
   .rfl
   .exact t
  have hfrom:=xn8 (d+2+k) Z hp hv a m2;rw[show d+2+k+1=d+3+k by omega]at hfrom;simp[g7',hS2.b2,hS2.b7,hfrom];unfold ul;simp only[rD];generalize hH:(λ(args:List AV) (m:Mem)=>bif Nat.beq args.length 2&&true then QD (aG (d+3+k)) hh m.next (.ptr (0,14,6) 0 0) (.ptr (0,13,5) 0 0) (.ptr (0,1,3) 0 0) (.ptr (0,21,8) 0 0) (.ptr (u,0,7) 0 0) (args.getD 0 U) (args.getD 1 U) ⟨m.hp,m.next+1⟩ 0 else none)=H;obtain⟨m3,hc,hI⟩:=ybf (d:=d+1+k) (hh:=((u,9,0),H)::hh) (id:=(u,9,0)) (h:=H) Z hp hv (by omega) hF.rng (by simp[tG]) a (m0:=m2)
   (λpre m=>∃n b,SM s p f v l.length n b m/\DS l.length φ n b/\Un l.length n b a/\Sub l.length K1 b/\Clo P F K1 b/\(∀x∈pre,kG F x/\(fB P x=a->boA b (cY P x)=true))/\u+1<m.next/\(∀j:Id,1<=j.1->j.1<u+1->m.get j=m2.get j))
   (λpre m R ⟨n,b,X,D,h3,h4,h5,h6,h7,h8⟩ hn hg=>⟨n,b,X.fr (by omega) (λj hj=>hg j (by omega)),D,h3,h4,h5,h6,by omega,λj j1 j2=>by rw[hg j (by omega)];exact h8 j j1 j2⟩)
   (λpre x m hx hfx ⟨n,b,X,D,h3,h4,h5,h6,h7,h8⟩=>by
    suffices step:∀Q2:Option Mem->Prop,(∀mm O2 Y,SM s p f v l.length O2 Y mm->DS l.length φ O2 Y->Un l.length O2 Y a->Sub l.length K1 Y->Clo P F K1 Y->(∀y∈pre++[x],kG F y/\(fB P y=a->boA Y (cY P y)=true))->u+1<mm.next->(∀j:Id,1<=j.1->j.1<u+1->mm.get j=m2.get j)->Q2 (some mm))->Q2 (H [.agg [I x.p,I x.s],I (cY P x)] m)from
     step (λr=>∃mm,r=some mm/\∃O2 Y,SM s p f v l.length O2 Y mm/\DS l.length φ O2 Y/\Un l.length O2 Y a/\Sub l.length K1 Y/\Clo P F K1 Y/\(∀y∈pre++[x],kG F y/\(fB P y=a->boA Y (cY P y)=true))/\u+1<mm.next/\(∀j:Id,1<=j.1->j.1<u+1->mm.get j=m2.get j)) λmm O2 Y a1 a2 a3 a4 a5 a6 a7 a8=>⟨mm,rfl,O2,Y,a1,a2,a3,a4,a5,a6,a7,a8⟩
    intro Q2 hQ2
    obtain⟨-,t0,t1⟩:=vC hP hF.rng hx
    have hpx:=hF.rng x.p hx.1
    rw[<-hH]
    simp only[eI,kF,bO,Nat.reduceAdd,zQ,d8,bB,xk3,List.getD_cons_succ]
    unfold QD um
    generalize hU3:m.next=u3 at *
    simp only[xas]
    simp
    generalize hm4:Mem.set _ _ _=m4
    have hm4g:∀j:Id,¬j.1=u3->m4.get j=m.get j:=λj hj=>by
     rw[<-hm4,Mem.cP,aD (by rintro rfl;exact hj rfl),Mem.dP,aD (by rintro rfl;exact hj rfl)];rfl
    have q8:m4.get (u3,0,8)=some (.row [I x.p,I x.s] 0 false):=by rw[<-hm4];simp
    have hm4n:m4.next=u3+1:=by rw[<-hm4];rfl
    have C:SM s p f v l.length n b m4:=X.fr (by omega) λj hj=>hm4g j (by omega)
    have q7:m4.get (u,0,7)=some (.row [I a] 0 false):=by rw[hm4g _ (by simp only;omega),h8 _ (by simp only;omega) (by simp only;omega)];exact g7'
    have ixT:aT 1 (.sref idK 0 0 l.length 1 true) (I (cY P x))=some (.ptr idK 0 (cY P x).toNat):=DC t0 t1
    have ldT:=C.oK.ldB (k:=cY P x) t0 (by rw[D.lk];exact t1)
    have ldT':aA false 1 (.ptr idK 0 (cY P x).toNat) m4=some (B (boA b (cY P x))):=ldT
    have hb:∀i,({hp:=m.hp,next:=u3+1}:Mem).get i=m.get i:=λ_=>rfl
    have q7m:m.get (u,0,7)=some (.row [I a] 0 false):=by rw[h8 _ (by simp only;omega) (by simp only;omega)];exact g7'
    have ixA:aT 1 (.sref idA 0 0 l.length 1 true) (I a)=some (.ptr idA 0 a.toNat):=DC N.1 N.2
    have ixA2:aT 1 (.sref idA 0 0 l.length 1 true) (I (cY P x))=some (.ptr idA 0 (cY P x).toNat):=DC t0 t1
    have ldA:=C.oA.ldI (k:=a) N.1 (by rw[D.lo];exact N.2)
    have hKa:boA b a=true:=h4 a N.1 N.2 (by rw[hkb a N.1,aH rfl])
    have hOa:at0 n a.toNat=φ a:=D.kn a N.1 N.2 hKa
    rw[hOa]at ldA
    have LU:=hf.ixI gE (k:=x.p) hpx.1 (by rw[hph];exact hpx.2)
    have ldP:=nS (m:=m4) (l:=ph) (k:=x.p.toNat) (by omega)
    cases hkt:boA b (cY P x)with
    |true=>
     rw[hkt]at ldT'
     simp[hb,X.b6,ixT,ldT']
     exact hQ2 m4 n b C D h3 h4 h5 (λy L=>by
      rcases jC.mp L with L|L
      .exact h6 y L
      .simp at L;subst L;exact⟨hx,λ_=>hkt⟩) (by omega) (λj j1 j2=>by rw[hm4g j (by omega)];exact h8 j j1 j2)
    |false=>
     rw[hkt]at ldT'
     have hstep:=hpot.st.step hx
     rw[hfx]at hstep
     have ba:=Pot.abs hP hF hpot hM (v:=a.toNat) (by omega)
     have bt:=Pot.abs hP hF hpot hM (v:=(cY P x).toNat) (by omega)
     rw[J3 N.1]at ba
     rw[J3 t0]at bt
     have hnM:l.length*M<=60*10000000000:=G6 hl hMb
     obtain⟨st1,st2⟩:=C.oA.st1 (g:=I) (λ_=>rfl) (k:=cY P x) t0 (by rw[D.lo];exact t1) (x:=φ (cY P x)) rfl rfl
     simp[-rC,hb,X.b6,X.b5,X.b3,q7m,ixT,ldT',ixA,ixA2,ldA,LU,ldP]
     have hw1:bM (φ (cY P x)-φ a)=φ (cY P x)-φ a:=bJ
     rw[hstep,hw1,bJ,show φ a+(φ (cY P x)-φ a)=φ (cY P x) by omega]
     simp only[st1]
     generalize hm5:Mem.set m4 _ _=m5 at st2 ⊢
     have A:∀j:Id,j≠idA->m5.get j=m4.get j:=λj hj=>by rw[<-hm5,Mem.cP,aD hj]
     have hm5n:m5.next=u3+1:=by rw[<-hm5];exact hm4n
     have hS5:SM s p f v l.length (n.set (cY P x).toNat (φ (cY P x))) b m5:=⟨by rw[A _ (by simp[idA])];exact C.b2,by rw[A _ (by simp[idA])];exact C.b3,by rw[A _ (by simp[idA])];exact C.b5,by rw[A _ (by simp[idA])];exact C.b6,by rw[A _ (by simp[idA])];exact C.b7,by rw[A _ (by simp[idA])];exact C.b8,st2,C.oK.fr (A _ (by simp[idK,idA])),by omega⟩
     have hog:∀w:Int,0<=w->at0 (n.set (cY P x).toNat (φ (cY P x))) w.toNat=if w=cY P x then φ (cY P x)else at0 n w.toNat:=λw t=>yca t0 (by rw[D.lo];exact t1) t
     have hD5:DS l.length φ (n.set (cY P x).toNat (φ (cY P x))) b:=⟨by simp[D.lo],D.lk,λw E W t=>by
      rw[hog w E];split
      .rename_i e;rw[e]
      .exact D.kn w E W t⟩
     have hU5:Un l.length (n.set (cY P x).toNat (φ (cY P x))) b (cY P x):=λw E W hne t=>by
      rw[hog w E,aD hne]
      refine h3 w E W ?_ t
      rintro rfl
      rw[hKa]at t;cases t
     have hsu:=h4.unk (by rw[hK1];simp[hD.lk]) D.lk
     obtain⟨m6,O6,K6,e1,e2,e3,e4,e5,e6,e7,e8,e9⟩:=ih hh (cY P x) m5 _ b hS5 hD5 ⟨t0,t1⟩ hkt (by rw[hog _ t0,aH rfl]) hU5 (by omega)
     have hinv:fI (aG (d+3+k)) hh 2 (.clo wD F6) [I (cY P x)] m5=some (.tup [],m6):=e1
     unfold F6 at hinv
     simp[hS5.b8,hinv]
     refine hQ2 m6 O6 K6 e2 e3 (λw E W hne t=>?_) (λw E W t=>e5 w E W (h4 w E W t)) (h5.trans hP hF.rng e6 e5) (λy L=>?_) (by omega) (λj j1 j2=>?_)
     .by_cases c:w=cY P x
      .rw[c,e7]at t;cases t
      .exact e4 w E W c t
     .rcases jC.mp L with L|L
      .obtain⟨y1,y2⟩:=h6 y L
       exact⟨y1,λhfy=>e5 _ (vC hP hF.rng y1).2.1 (vC hP hF.rng y1).2.2 (y2 hfy)⟩
      .simp at L;subst L;exact⟨hx,λ_=>e7⟩
     .rw[e9 j j1 (by omega),A j (by unfold idA;rintro rfl;simp at j1),hm4g j (by omega)]
      exact h8 j j1 j2)
   (λpre x m hx hfx ⟨n,b,X,D,h3,h4,h5,h6,h7,h8⟩=>⟨n,b,X,D,h3,h4,h5,λy L=>by
    rcases jC.mp L with L|L
    .exact h6 y L
    .simp at L;subst L;exact⟨hx,λhfy=>absurd hfy hfx⟩,h7,h8⟩)
   (λm hn hg=>⟨O,K1,hS2.fr (by omega) (λj _=>hg j),hD1,hUn1,λ_ _ _ h=>h,Clo.refl,(λx hx=>by cases hx),by omega,λj _ _=>hg j⟩)
  obtain⟨n,b,X,D,h3,h4,h5,h6,h7,h8⟩:=hI;rw[show d+1+k+2=d+3+k by omega]at hc;simp only[hc,aE];refine hQ m3 n b X D h3 (λw E W t=>h4 w E W (hsub1 w E W t)) (λx hx x0 x1=>?_) (h4 a N.1 N.2 (by rw[hkb a N.1,aH rfl])) (by omega) (λj j1 j2=>?_)
  .by_cases c:fB P x=a
   .exact(h6 x (mem_stepsOf.mpr hx)).2 c
   .exact h5 x hx (by rw[hkb _ (vC hP hF.rng hx).1.1,aD c];exact x0) x1
  .rw[h8 j j1 (by omega),o j (by unfold idK;rintro rfl;simp at j1),hm1f j j1 j2]
def kN(a:List Int)(i:Int):Int:=at0 a i.toNat
def xm0:∃c,YF=[c]:=by have:YF.length=1:=(by kernel_rfl);exact List.length_eq_one_iff.mp this
def xmv:YC=[nilS]:=by kernel_rfl
def xmw:xau=[nilS]:=by kernel_rfl
def ycr(d:Nat){s p f:AV}{l:List Scene}{P:List Pq}{A:List Int}(Z:Sl Scene.c s l)(hp:Sl Pq.c p P)(hf:Ints f A)(hR:Right7 l P)(hl:l.length<=12)(hld:l.length<=d+8)(hPl:P.length<=19)(hph:A.length=P.length){M:Nat}(hM:∀k,k<A.length->(at0 A k).natAbs<=M)(hMb:M<=10000000000) :
    RetF (λv=>Ints v (mC l.length (lM l.length P (jR (fW l P) l.length P) (kN A)))) (aG (d+12) [] B1 [.agg [s,p],f] mem0):=by
 have R:=hR.pr;obtain⟨F,H⟩:∃F,F=jR (fW l P) l.length P:=⟨_,rfl⟩;have W:For l.length P F:=(by rw[H];exact xf4 R _);have t:=xei R (kN A) W;rw[<-H];generalize lM l.length P F (kN A)=φ at *
 rw[x7j];unfold lh QA;obtain⟨zc,hzc⟩:=xm0;simp[mem0,Z.one,hp.one,hf.one,hf.cells,Z.len pK,x0g (n:=l.length) (by omega),x0h (n:=l.length) (by omega),xmv,xmw,tR,tS,aY,kX];generalize a:Mem.set _ (0,14,6) _=m1;have i2:m1.get (0,0,2)=some (.row [s,p] 0 false):=(by rw[<-a];simp);have i3:m1.get (0,1,3)=some (.row [f] 0 false):=(by rw[<-a];simp);have i5:m1.get (0,13,5)=some (.row [.sref idA 0 0 l.length 1 true] 0 false):=(by rw[<-a];simp[idA]);have i6:m1.get (0,14,6)=some (.row [.sref idK 0 0 l.length 1 true] 0 false):=(by rw[<-a];simp[idK]);have iA:Ow intE m1 idA (List.replicate l.length 0):=(by unfold Ow;rw[<-a];simp[idA]);have iK:Ow bE m1 idK (List.replicate l.length false):=(by unfold Ow;rw[<-a];simp[idK]);have in1:m1.next=1:=(by rw[<-a];rfl);obtain⟨v,hv,D⟩:=xnz (d+4) Z hp hR hl hPl m1;rw[<-H]at hv;have hcl:∀(g:FuncId) (c:List AV),(AV.clo g c).cells=[AV.clo g c]:=λ_ _=>rfl
 have hco:∀(g:FuncId) (c:List AV),(AV.clo g c).one=true:=λ_ _=>rfl
 simp[D,hv.cells,hv.one,hzc,hcl,hco];generalize o:Mem.set _ (0,21,8) _=m2;have b:∀j:Id,j≠(0,19,7)->j≠(0,21,8)->m2.get j=m1.get j:=λj C L=>by rw[<-o,Mem.cP,aD L,Mem.dP,aD L,Mem.cP,aD C,Mem.dP,aD C]
 have e:SM s p f v l.length (List.replicate l.length 0) (List.replicate l.length false) m2:=⟨by rw[b _ (by simp) (by simp)];exact i2,by rw[b _ (by simp) (by simp)];exact i3,by rw[b _ (by simp) (by simp)];exact i5,by rw[b _ (by simp) (by simp)];exact i6,by rw[<-o];simp,by rw[<-o];simp,
  iA.fr (b _ (by simp[idA]) (by simp[idA])),iK.fr (b _ (by simp[idK]) (by simp[idK])),by rw[<-o];show 1<=m1.next;omega⟩
 have u:∀v:Int,boA (List.replicate l.length false) v=false:=λv=>by unfold boA;rw[eU,List.getElem?_replicate];split<;>rfl
 have E:∀v:Nat,at0 (List.replicate l.length 0) v=0:=λv=>by unfold at0;rw[eU,List.getElem?_replicate];split<;>rfl
 unfold uj;simp[e.b5];rw[show aN prog fG (.sref idA 0 0 l.length 1 true)=some (I l.length)from rfl];simp only[aE];refine nQ (N:=l.length) (σ:=Unit) (λn k _ m Y=>Y3 (aG (d+11)) [] 0 n (.ptr (0,13,5) 0 0) (.ptr (0,14,6) 0 0) (.ptr (0,21,8) 0 0) (I l.length) (I k) m Y)
  (λk _ m=>∃O K,SM s p f v l.length O K m/\DS l.length φ O K/\Un l.length O K (-1)/\Cls P F K/\∀j:Nat,j<k->boA K j=true) _ ?_ ?_ NN 0 () m2 _ (by omega) (by rw[cU];omega)
  ⟨_,_,e,⟨by simp,by simp,λv _ _ h=>by rw[u]at h;cases h⟩,λv _ _ _ _=>E _,(show Cls P F _ from λx _ h=>by rw[u]at h;cases h),λj h=>by omega⟩
 .rintro n k-m Y hk ⟨O,K,e,J,hU,hC,Q⟩ next;have hk':(k:Int)<(l.length:Int):=(by omega);have ixK:aT 1 (.sref idK 0 0 l.length 1 true) (I (k:Int))=some (.ptr idK 0 (k:Int).toNat):=DC (by omega) hk';have ldK:=e.oK.ldB (k:=(k:Int)) (by omega) (by rw[J.lk];exact hk');have ldK':aA false 1 (.ptr idK 0 (k:Int).toNat) m=some (B (boA K k)):=ldK;simp only[Y3];unfold QB uk;simp only[bQ,hk',bC,aR,aE,jF,e.b6,U2,zQ,bB,bA,cE,ixK];rw[<-jF,ldK'];cases r:boA K k with
  |true=>
   unfold HO;simp(disch:=omega) [bJ];refine next () m _ ⟨O,K,e,J,hU,hC,λj hj=>?_⟩;by_cases c:j=k
   .rw[c];exact r
   .exact Q j (by omega)
  |false=>
   have hz:=t.z k hk (xsa R W hC hk Q r)
   obtain⟨m3,O3,K3,e1,e2,e3,e4,e5,e6,e7,e8,e9⟩:=ya8 (d+8-l.length) Z hp hf hv hR.ll R W hph t (M:=M) (λi hi=>hM _ (by have:=W.rng i hi;omega)) hMb l.length [] (k:Int) m O K e J ⟨by omega,hk'⟩ r (by rw[hU _ (by omega) hk' (by omega) r,hz]) (λw w0 w1 hne D=>hU w w0 w1 (by omega) D) (by
    have C:unk K<=K.length:=HD _ _
    rw[J.lk]at C
    omega)
   rw[show d+8-l.length+3+l.length=d+11 by omega]at e1;have y:fI (aG (d+11)) [] 2 (.clo wD F6) [I (k:Int)] m=some (.tup [],m3):=e1;unfold F6 at y;simp only[fA,bW,aE,aR,e.b8,U2,zQ,bB,bA,cE,y];unfold HO;simp(disch:=omega) [bJ];refine next () m3 _ ⟨O3,K3,e2,e3,λw w0 w1 hne D=>?_,hC.grow R W.rng e6 e5,λj hj=>?_⟩
   .by_cases c:w=(k:Int)
    .rw[c,e7]at D;cases D
    .exact e4 w w0 w1 c D
   .by_cases c:j=k
    .rw[c];exact e7
    .exact e5 _ (by omega) (by omega) (Q j (by omega))
 .rintro n-m Y ⟨O,K,e,J,hU,hC,Q⟩;have:=J.all Q;subst this;simp only[Y3];unfold QB uq;simp[e.b5];have X:=e.oA;unfold Ow at X;have C:=eg (k:=4) gE wS (x:=true) (l:=mC l.length φ) X;have L:Ints (.aQ ((mC l.length φ).flatMap intE) (mC l.length φ).length false) (mC l.length φ):=Sl.lit _ false;rw[rJ]at C L;exact RetF.mk C L
def xba(d:Nat){s p f:AV}{l:List Scene}{P:List Pq}{a:List Int}(Z:Sl Scene.c s l)(i:Sl Pq.c p P)(j:Ints f a)(n:Right7 l P)(o:l.length<=12)(b:l.length<=d+8)(e:P.length<=19)(g:a.length=P.length){M:Nat}(r:∀k,k<a.length->(at0 a k).natAbs<=M)(h:M<=10000000000)(m:Mem) :
    ∃v,Ints v (mC l.length (lM l.length P (jR (fW l P) l.length P) (kN a)))/\aI (aG (d+12)) B1 [.agg [s,p],f] m=some (v,m):=
 qF (by simp[Z.aP,i.aP,j.bG]) (ycr d Z i j n o b e g r h) m
def oL(l:List Scene)(P:List Pq)(a:List Int):Int->Int:=lM l.length P (jR (fW l P) l.length P) (kN a)
def kB(l:List Scene)(P:List Pq)(d:List Int):List Int:=(List.range P.length).map λ(k:Nat)=>at0 d k-oL l P d (cL P k).b+oL l P d (cL P k).a
def FM(l:List Scene)(P:List Pq)(a:List Int):(kB l P a).length=P.length:=by simp[kB]
def x0x{l:List Scene}{P:List Pq}{d:List Int}{k:Nat}(h:k<P.length):at0 (kB l P d) k=at0 d k-oL l P d (cL P k).b+oL l P d (cL P k).a:=by rw[fD (by rw[FM];exact h)];simp[kB]
def x0w{l:List Scene}{P:List Pq}{ph:List Int}{k:Nat}(h:k<P.length):(kB l P ph).take (k+1)=(kB l P ph).take k++[at0 ph k-oL l P ph (cL P k).b+oL l P ph (cL P k).a]:=by rw[jV (by rw[FM];exact h),<-fD,x0x h]
def CY{l:List Scene}{P:List Pq}{a:List Int}(b:Right7 l P)(e:a.length=P.length){M:Nat}(f:∀k,k<a.length->(at0 a k).natAbs<=M){v:Int}(g:0<=v)(j:v<l.length):(oL l P a v).natAbs<=l.length*M:=by have d:=xf4 (P:=P) (n:=l.length) b.pr (fW l P);have:=Pot.abs b.pr d (xei b.pr (kN a) d) (M:=M) (λi h=>f _ (by have:=d.rng i h;omega)) (v:=v.toNat) (by omega);rw[J3 g]at this;exact this
def xeh{P:List Pq}{k:Nat}(h:k<P.length):cL P (k:Int)=P[k]:=LE (by simpa using h)
def ycu(d:Nat){s p f:AV}{l:List Scene}{P:List Pq}{e:List Int}(Z:Sl Scene.c s l)(r:Sl Pq.c p P)(K:Ints f e)(t:Right7 l P)(L:l.length<=12)(y:l.length<=d+8)(A:P.length<=19)(g:e.length=P.length){M:Nat}(u:∀k,k<e.length->(at0 e k).natAbs<=M)(h:M<=10000000000) :
    RetF (λv=>Ints v (kB l P e)) (aG (d+13) [] O8 [.agg [s,p],f] mem0):=by
 rw[x7k];unfold li QE;have C:=xba d Z r K t L y A g u h ((⟨[],1⟩:Mem).new (0,0,2) (.row [s,p] 0 false));obtain⟨v,W,C⟩:=C;have hnM:l.length*M<=12*10000000000:=G6 L h;simp[mem0,Z.one,r.one,C];unfold ur;simp[r.len L0];refine nQ (N:=P.length) (λn k a m Y=>Y4 (aG (d+12)) [] 0 n f v a p (I P.length) (I k) m Y)
  (λk a m=>Gr 1 intE 0 39 m a ((kB l P e).take k)) _ ?_ ?_ NN 0 nilS _ _ (by omega) (by rw[cU];omega) (by simpa using Gr.nil)
 .rintro n k a m Y i w next;have hk':(k:Int)<(P.length:Int):=(by omega);have ip:=r.ix Pq.len i;have O:=λm=>iP (m:=m) (enc:=Pq.c) Pq.len (by omega) i
  have D:=K.ix gE (show k<e.length by omega);have E:=λm=>nS (m:=m) (show k<e.length by omega)
  have j:=x0w (l:=l) (P:=P) (ph:=e) i;obtain⟨J,q1,X⟩:=t.pr P[k] (eX i);rw[xeh i]at j;generalize P[k]=q at *
  have ia:=W.ixI gE (k:=q.a) J (by rw[rJ];omega);have ib:=W.ixI gE (k:=q.b) (by omega) (by rw[rJ];omega);have Q:=λm=>nS (m:=m) (l:=mC l.length (oL l P e)) (k:=q.a.toNat) (by rw[rJ];omega)
  have R:=λm=>nS (m:=m) (l:=mC l.length (oL l P e)) (k:=q.b.toNat) (by rw[rJ];omega)
  rw[LH J (by omega)]at Q;rw[LH (by omega) X]at R;have ba:=CY t g u (v:=q.a) J (by omega);have bb:=CY t g u (v:=q.b) (by omega) X;have bp:=u k (by omega);unfold oL at *
  simp only[Pq.c]at O;simp only[Y4];unfold QF;simp[hk',ip,O,f6];generalize o:Mem.set _ _ _=m1;have g8:m1.get (0,Y+4,8)=some (.row [I q.a,I q.b] 0 false):=(by rw[<-o];simp);have F:Gr 1 intE 0 39 m1 a ((kB l P e).take k):=w.frame λs=>by rw[<-o];simp
  obtain⟨a2,m2,e1,e2,e3,-⟩:=F.app (s0:=Y+25) (bytes:=8) gE (by omega) (by unfold cQ;simp[FM];omega) (at0 e k-lM l.length P (jR (fW l P) l.length P) (kN e) q.b+lM l.length P (jR (fW l P) l.length P) (kN e) q.a);simp[D,E,ia,ib,Q,R,nB];have H:bM (at0 e k-lM l.length P (jR (fW l P) l.length P) (kN e) q.b)=at0 e k-lM l.length P (jR (fW l P) l.length P) (kN e) q.b:=bJ;rw[H,bJ,bJ];rw[show ∀x:Int,elems m1.get 1 (.aQ [I x] 1 true)=some (intE x,1)from λ_=>rfl,e1];exact next a2 m2 _ (by rw[j];exact e2)
 .rintro n a m Y w;rw[dU (by rw[FM];exact bT _)]at w;simp only[Y4];unfold QF ut;simp;obtain⟨a',h1,h2⟩:=w.frzk (k:=4) gE wS;exact RetF.mk h2 h1
def xnv(d:Nat){s p f:AV}{l:List Scene}{P:List Pq}{a:List Int}(Z:Sl Scene.c s l)(i:Sl Pq.c p P)(j:Ints f a)(n:Right7 l P)(o:l.length<=12)(b:l.length<=d+8)(e:P.length<=19)(g:a.length=P.length){M:Nat}(r:∀k,k<a.length->(at0 a k).natAbs<=M)(h:M<=10000000000)(m:Mem) :
    ∃v,Ints v (kB l P a)/\aI (aG (d+13)) O8 [.agg [s,p],f] m=some (v,m):=
 qF (by simp[Z.aP,i.aP,j.bG]) (ycu d Z i j n o b e g r h) m
def StOK7(N:Nat)(w:List Sp):Prop:=∀x∈w,(0<=x.p/\x.p<N)/\(x.s=1\/x.s=-1)
def StOK7.abs{a:List Int}{M:Nat}(b:∀k,k<a.length->(at0 a k).natAbs<=M):∀{w:List Sp},StOK7 a.length w->(uE (kN a) w).natAbs<=w.length*M
 |[],_=>by simp[uE]
 |x::r,h=>by
  have g:=StOK7.abs b (w:=r) λy d=>h y (eA _ d)
  obtain⟨l,f⟩:=h x (eO ..);have i:=b x.p.toNat (by omega);have j:(x.s*kN a x.p).natAbs=(at0 a x.p.toNat).natAbs:=(by unfold kN;rcases f with e|e<;>rw[e]<;>simp);rw[uE,eI,lR];omega
def GT(N:Nat)(a:Int):List Int:=(freshM N).filter λi=>!decide (i=a)
def yck(N:Nat):GT N (-1)=freshM N:=by unfold GT;rw[HG];intro x a;have:=fresh_mem.mp a;simp;omega
def xpd{n:Nat}{P:List Pq}:kI n P (GT P.length (-1))=joinsM (freshM n) P:=by unfold kI;rw[yck,xxp]
def DB(x:Int):Bool:=!(wi x (-100000000) 100000000)
def BM(x:Int):Bool:=!(wi x 0 1000)
def uD(l:List Scene)(P:List Pq)(a b:List Int):Int:=
 bif !decide ((uS l P).2=0)then(uS l P).2 else bif !decide (a.length=P.length)||!decide (b.length=P.length)then 10 else bif a.any DB then 2 else bif b.any BM then 2 else 0
structure TaskOK (l:List Scene) (P:List Pq) (ph wt:List Int):Prop where
 r:Right7 l P
 lp:ph.length=P.length
 lw:wt.length=P.length
 hp:∀k,k<ph.length->-100000000<=at0 ph k/\at0 ph k<=100000000
 hw:∀k,k<wt.length->0<=at0 wt k/\at0 wt k<=1000
def xj5{q:Int->Bool}{a b:Int}(e:∀x,q x=!(wi x a b)){l:List Int}(h:l.any q=false):∀k,k<l.length->a<=at0 l k/\at0 l k<=b:=λk d=>by rw[H2]at h;have:=h l[k] (eX d);rw[e]at this;rw[fD d];exact o8 (by simpa using this)
def xcl{l:List Scene}{P:List Pq}{b d:List Int}(h:uD l P b d=0):TaskOK l P b d:=by
 unfold uD at h;by_cases a:(uS l P).2=0
 .by_cases e:b.length=P.length
  .by_cases f:d.length=P.length
   .cases g:b.any DB with
    |true=>rw[g]at h;simp[a,e,f]at h
    |false=>
     cases i:d.any BM with
     |true=>rw[g,i]at h;simp[a,e,f]at h
     |false=>exact⟨xzp a,e,f,xj5 (λ_=>rfl) g,xj5 (λ_=>rfl) i⟩
   .simp[a,f]at h
  .simp[a,e]at h
 .simp[a]at h
def xps(d:Nat):X4 (aG (d+3)) (.clo P5 []) DB:=by intro Z x m;refine⟨m.next+1,?_⟩;show aG (d+3) Z P5 [I x] m=_;rw[x7w];unfold ml QZ DB;simp[xbb]
def xpr(d:Nat):X4 (aG (d+2)) (.clo P4 []) BM:=by intro Z x m;refine⟨m.next+1,?_⟩;show aG (d+2) Z P4 [I x] m=_;rw[x7v];unfold mj QY BM;simp[K5]
def xo4(d:Nat){s p f g:AV}{l:List Scene}{P:List Pq}{a b:List Int}(Z:Sl Scene.c s l)(e:Sl Pq.c p P)(h:Ints f a)(i:Ints g b)(r:a.length<1000000)(t:b.length<1000000)(m:Mem) :
    aI (aG (d+8)) DN [.agg [s,p,f,g]] m=some (I (uD l P a b),m):=by
 refine dT (by simp[Z.aP,e.aP,h.aP,i.aP]) ?_ m;rw[x7x];unfold mo RA;have u:=λm=>xbp (d+5) h r (xps (d+2)) rfl m
 have w:=λm=>xbp (d+5) i t (xpr (d+3)) rfl m
 simp[mem0,Z.one,e.one,h.one,i.one,xns (d+1) Z e];unfold uD;by_cases o:(uS l P).2=0
 .simp[o,e.len L0,h.len jZ];by_cases n:a.length=P.length
  .simp[n,i.len jZ];by_cases j:b.length=P.length
   .simp[j,u];cases x:a.any DB with
    |true=>simp;exact RetF.st rfl rfl
    |false=>
     simp[w];cases y:b.any BM with
     |true=>simp;exact RetF.st rfl rfl
     |false=>simp;exact RetF.st rfl rfl
   .have e2':¬(b.length:Int)=(P.length:Int):=(by omega);simp[j,e2'];exact RetF.st rfl rfl
  .have e1':¬(a.length:Int)=(P.length:Int):=(by omega);simp[n,e1'];exact RetF.st rfl rfl
 .simp[o];exact RetF.st rfl rfl
def CI(m:Mem)(u:Nat)(a:AV)(l:List Int):Prop:=(l=[]/\a=.aQ [] 0 true)\/(l≠[]/\a=.sref (u,3,5) 0 0 l.length 1 true/\Ow intE m (u,3,5) l)
def CI.one{m:Mem}{u:Nat}{a:AV}{l:List Int}(h:CI m u a l):a.cells=[a]/\a.one=true/\aP a=aP a:=by rcases h with ⟨-,rfl⟩|⟨-,rfl,-⟩<;>exact⟨rfl,rfl,rfl⟩
def CI.fr{m b:Mem}{u:Nat}{a:AV}{l:List Int}(h:CI m u a l)(e:b.get (u,3,5)=m.get (u,3,5)):CI b u a l:=by
 rcases h with h|⟨h0,h1,h2⟩
 .exact .inl h
 .exact .inr ⟨h0,h1,h2.fr e⟩
def CI.frz{m:Mem}{u:Nat}{a:AV}{l:List Int}(h:CI m u a l)(k:Nat):∃b,Ints b l/\Go.Ix.frz m.get (k+2) a=some b:=by
 rcases h with ⟨rfl,rfl⟩|⟨-,rfl,h⟩
 .exact⟨.aQ [] 0 true,Sl.lit [] true,rfl⟩
 .exact⟨_,Sl.lit l false,eg (k:=k) gE wS h⟩
def xhy{d:Id->Option Ob}{a b c e f g h i:AV}{k:Nat}(j:Go.Ix.frz d (k+1) a=some f)(l:Go.Ix.frz d (k+1) b=some g)(m:Go.Ix.frz d (k+1) c=some h)(n:Go.Ix.frz d (k+1) e=some i):Go.Ix.frz d (k+2) (.agg [a,b,c,e])=some (.agg [f,g,h,i]):=by show([a,b,c,e].mapM (Go.Ix.frz d (k+1))).map AV.agg=_;simp only[eG,fZ,j,l,m,n];rfl
structure Stp where
 fr:Int
 to:Int
 ed:Int
 sg:Int
 gain:Int
 room:Int
def s00:Stp:=⟨0,0,0,0,0,0⟩
def stpAt(S:List Stp)(i:Nat):Stp:=S.getD i s00
def xp9{S:List Stp}{i:Nat}(h:i<S.length):stpAt S i=S[i]:=by unfold stpAt;rw[eU,eY h];rfl
structure SOK (J:Int) (n:Nat) (S:List Stp):Prop where
 ok:∀i,i<S.length->(0<=(stpAt S i).fr/\(stpAt S i).fr<n)/\(0<=(stpAt S i).to/\(stpAt S i).to<n)/\(stpAt S i).fr≠(stpAt S i).to/\(-J<=(stpAt S i).gain/\(stpAt S i).gain<=J)
structure BF where
 far:List Int
 by':List Int
 last:Int
def sT(len r i j:Nat):Nat:=if j<i then r*len+j+1 else r*len+j+1-len
structure BFI (J:Int) (n:Nat) (S:List Stp) (r i:Nat) (b:BF) (ta:Nat->Nat):Prop where
 fl:b.far.length=n
 bl:b.by'.length=n
 le:∀v,ta v<=r*S.length+i
 inj:∀u v,ta u=ta v->0<ta u->u=v
 bnd:∀v,0<=at0 b.far v/\at0 b.far v<=J*(r*S.length+i:Nat)
 bb:∀v,0<=at0 b.by' v/\(at0 b.by' v).toNat<=S.length
 arc:∀j,j<S.length->0<sT S.length r i j->at0 b.far (stpAt S j).fr.toNat+(stpAt S j).gain<=at0 b.far (stpAt S j).to.toNat\/sT S.length r i j<ta (stpAt S j).fr.toNat
 pre:∀v,v<n->0<ta v->(at0 b.by' v).toNat<S.length/\(stpAt S (at0 b.by' v).toNat).to=v /\
  at0 b.far v<=at0 b.far (stpAt S (at0 b.by' v).toNat).fr.toNat+(stpAt S (at0 b.by' v).toNat).gain /\
  (ta v<ta (stpAt S (at0 b.by' v).toNat).fr.toNat->at0 b.far v<at0 b.far (stpAt S (at0 b.by' v).toNat).fr.toNat+(stpAt S (at0 b.by' v).toNat).gain) /\
  (S.length<ta v->ta v<ta (stpAt S (at0 b.by' v).toNat).fr.toNat+S.length)
 la:b.last=-1\/∃v,v<n/\b.last=(v:Nat)/\r*S.length<ta v
def y8(S:List Stp)(a:List Int)(v:Nat):Nat:=(stpAt S (at0 a v).toNat).fr.toNat
def u9(S:List Stp)(a:List Int)(v:Nat):Stp:=stpAt S (at0 a v).toNat
def x1n{P:Nat->Prop}:∀d,P d->∃d,P d/\∀e,e<d->¬P e:=by
 intro d;induction d using Nat.strongRecOn with
 |_ d i=>
  intro h;by_cases c:∃e,e<d/\P e
  .obtain⟨e,f,g⟩:=c;exact i e f g
  .exact⟨d,h,λe a b=>c ⟨e,a,b⟩⟩
def BFI.step{J:Int}{n:Nat}{S:List Stp}(e:SOK J n S){r i:Nat}{b:BF}{a:Nat->Nat}(h:BFI J n S r i b a){v:Nat}(f:v<n)(g:0<a v) :
    u9 S b.by' v∈S/\(u9 S b.by' v).to=v/\(u9 S b.by' v).fr=(y8 S b.by' v:Nat)/\y8 S b.by' v≠v/\at0 b.far v<=at0 b.far (y8 S b.by' v)+(u9 S b.by' v).gain /\
     (a v<a (y8 S b.by' v)->at0 b.far v<at0 b.far (y8 S b.by' v)+(u9 S b.by' v).gain):=by
 obtain⟨d,l,m,o,p⟩:=h.pre v f g;have j:=e.ok _ d;refine⟨?_,l,?_,?_,m,o⟩
 .unfold u9;rw[xp9 d];exact eX d
 .unfold u9 y8;omega
 .unfold y8;omega
def E5(a:List Int)(i:Nat):Nat:=a.findIdx (λx=>x == at0 a i)
def x4b{parts:List Int}{i:Nat}(h:i<parts.length):E5 parts i<=i/\at0 parts (E5 parts i)=at0 parts i:=by have b:parts.findIdx (λx=>x == at0 parts i)<=i:=(by apply Classical.byContradiction;intro d;have:=List.not_of_lt_findIdx (p:=λx=>x == at0 parts i) (xs:=parts) (i:=i) (by omega);exact absurd (fD h).symm (by simpa using this));refine⟨b,?_⟩;have a:parts.findIdx (λx=>x == at0 parts i)<parts.length:=(by omega);have:=List.findIdx_getElem (p:=λx=>x == at0 parts i) (w:=a);unfold E5;rw[fD a];simpa using this
def wC(n:Nat)(a b:List Int):List Int:=(List.range n).map λi=>at0 b i-at0 b (E5 a i)
def bm(n:Nat)(a b:List Int):(wC n a b).length=n:=by simp[wC]
def xzi{n:Nat}{a b:List Int}{k:Nat}(h:k<n):(wC n a b)[k]'(by rw[bm];exact h)=at0 b k-at0 b (E5 a k):=by simp[wC]
structure Solved (J:Int) (n:Nat) (l:List Edge) (fl tu ex:List Int):Prop where
 f:FlowOK n l fl tu ex
 e:∀v,at0 ex v<=0
 t:∃P,TurnB n tu ex P/\P<=J*12000
inductive Reach (nb:Nat->List Int) (r:Nat):Nat->Prop
 |refl:Reach nb r r
 |step {a b:Nat}:Reach nb r a->(b:Int)∈nb a->Reach nb r b
structure Sym (n:Nat) (nb:Nat->List Int):Prop where
 rng:∀a,a<n->∀b∈nb a,0<=b/\b<n
 sym:∀a b,a<n->b<n->(b:Int)∈nb a->(a:Int)∈nb b
structure BInv (n:Nat) (nb:Nat->List Int) (g:Int) (r:Nat) (out0 out q:List Int):Prop where
 l:out.length=n
 ch:∀v,at0 out v=at0 out0 v\/(v<n/\at0 out0 v<0/\at0 out v=g/\Reach nb r v)
 qi:∀a∈q,0<=a/\a<n/\at0 out a.toNat=g
 d:∀v,v<n->at0 out v=g->(v:Int)∈q\/∀b∈nb v,0<=at0 out b.toNat
def ey{n:Nat}{nb:Nat->List Int}{g:Int}{r:Nat}{i:List Int}(F:0<=g)(m:∀v,v<n->at0 i v≠g){a:Nat}(u:a<n)(o:Reach nb r a):∀(j:List Int),(∀b∈j,b∈nb a/\0<=b/\b<n)->∀(d q:List Int),d.length=n ->
    (∀v,at0 d v=at0 i v\/(v<n/\at0 i v<0/\at0 d v=g/\Reach nb r v))->(∀x∈q,0<=x/\x<n/\at0 d x.toNat=g)->(∀v,v<n->v≠a->at0 d v=g->(v:Int)∈q\/∀b∈nb v,0<=at0 d b.toNat) ->
    (kW g j (d,q)).1.length=n/\(∀v,at0 (kW g j (d,q)).1 v=at0 i v\/(v<n/\at0 i v<0/\at0 (kW g j (d,q)).1 v=g/\Reach nb r v))/\(∀x∈(kW g j (d,q)).2,0<=x/\x<n/\at0 (kW g j (d,q)).1 x.toNat=g) /\
     (∀v,v<n->v≠a->at0 (kW g j (d,q)).1 v=g->(v:Int)∈(kW g j (d,q)).2\/∀b∈nb v,0<=at0 (kW g j (d,q)).1 b.toNat)/\(∀v,0<=at0 d v->0<=at0 (kW g j (d,q)).1 v)/\(∀b∈j,0<=at0 (kW g j (d,q)).1 b.toNat)
 |[],_,d,q,C,y,D,E=>⟨C,y,D,E,λ_ h=>h,λb p=>by simp at p⟩
 |b::j,p,d,q,C,y,D,E=>by
  obtain⟨Q,Y,Z⟩:=p b (eO ..);obtain⟨l,rfl⟩:∃l:Nat,b=l:=⟨b.toNat,by omega⟩;have J:l<n:=(by omega);have e:kW g ((l:Int)::j) (d,q)=kW g j (oX g (d,q) l):=rfl;rw[e];by_cases c:at0 d l<0
  .have K:oX g (d,q) l=(d.set l g,q++[(l:Int)]):=(by unfold oX;simp only[gA];rw[aH c]);rw[K];have iR:∀v,at0 (d.set l g) v=if v=l then g else at0 d v:=λv=>GO (by omega)
   have mono:∀v,0<=at0 d v->0<=at0 (d.set l g) v:=λv A=>by rw[iR];split<;>omega
   obtain⟨L,M,N,O,w,P⟩:=ey F m u o j (λx f=>p x (eA _ f)) (d.set l g) (q++[(l:Int)]) (by simp[C]) (λv=>by
    rw[iR]
    by_cases ev:v=l
    .subst ev
     right
     rw[aH rfl]
     refine⟨J,?_,rfl,.step o Q⟩
     rcases y v with h|⟨_,h,_⟩<;>omega
    .rw[aD ev];exact y v) (λx f=>by
    rw[iR]
    rcases jC.mp f with f|f
    .obtain⟨R,W,X⟩:=D x f
     refine⟨R,W,?_⟩
     split
     .rfl
     .exact X
    .rw[kQ]at f
     subst f
     exact⟨by omega,by omega,by simp⟩) (λv A H t=>by
    rw[iR]at t
    by_cases ev:v=l
    .left;rw[ev];simp
    .rw[aD ev]at t
     rcases E v A H t with h|h
     .left;exact jC.mpr (Or.inl h)
     .right;exact λb p=>mono _ (h b p))
   refine⟨L,M,N,O,λv A=>w v (mono v A),λx f=>?_⟩;rcases eD.mp f with rfl|f
   .refine w _ ?_;rw[gA,iR,aH rfl];exact F
   .exact P x f
  .have K:oX g (d,q) l=(d,q):=(by unfold oX;simp only[gA];rw[aD c]);rw[K];obtain⟨L,M,N,O,w,P⟩:=ey F m u o j (λx f=>p x (eA _ f)) d q C y D E;refine⟨L,M,N,O,w,λx f=>?_⟩;rcases eD.mp f with rfl|f
   .exact w _ (by rw[gA];omega)
   .exact P x f
def xjv{n:Nat}{nb:Nat->List Int}(w:Sym n nb){g:Int}{r:Nat}{m:List Int}(A:0<=g)(i:∀v,v<n->at0 m v≠g):∀(F:Nat) (f q:List Int),rL f+q.length<F->BInv n nb g r m f q->BInv n nb g r m (F7 nb g F (f,q)) []
 |0,f,q,h,_=>by omega
 |F+1,f,[],h,o=>o
 |F+1,f,a::q,h,o=>by
  simp only[F7];obtain⟨Q,R,E⟩:=o.qi a (eO ..);obtain⟨j,rfl⟩:∃j:Nat,a=j:=⟨a.toNat,by omega⟩;rw[gA]at E ⊢;have p:j<n:=(by omega);have D:Reach nb r j:=by
   rcases o.ch j with h|⟨_,_,_,h⟩
   .exact absurd (h.symm.trans E) (i j p)
   .exact h
  obtain⟨K,L,M,N,W,O⟩:=ey A i p D (nb j) (λb u=>⟨u,w.rng j p b u⟩) f q o.l o.ch (λx H=>o.qi x (eA _ H)) (λv C J t=>by
   rcases o.d v C t with h|h
   .rcases eD.mp h with h|h
    .omega
    .exact Or.inl h
   .exact Or.inr h)
  obtain⟨-,P⟩:=ez A (nb j) (f,q) ⟨o.l,λb u=>by obtain⟨x,y,_⟩:=o.qi b (eA _ u);exact⟨x,y⟩⟩ (w.rng j p);simp only[eI]at h P;refine xjv w A i F (kW g (nb j) (f,q)).1 (kW g (nb j) (f,q)).2 (by omega) ⟨K,L,M,λv C t=>?_⟩;by_cases e:v=j
  .subst e;right;exact O
  .exact N v C e t
structure RInv (n:Nat) (nb:Nat->List Int) (k:Nat) (out:List Int) (g:Int):Prop where
 l:out.length=n
 g0:0<=g
 gk:g<=k
 lt:∀v,v<n->-1<=at0 out v/\at0 out v<g
 lab:∀v,v<k->v<n->0<=at0 out v
 cl:∀v,v<n->0<=at0 out v->∀b∈nb v,at0 out b.toNat=at0 out v
 rep:∃rep:Nat->Nat,∀c:Nat,(c:Int)<g->rep c<k/\rep c<n/\at0 out (rep c)=(c:Int)/\(∀v,v<n->at0 out v=(c:Int)->rep c<=v/\Reach nb (rep c) v)/\∀c',c'<c->rep c'<rep c
def xr9{n:Nat}{nb:Nat->List Int}(hn:n<=200)(C:Sym n nb){k:Nat}{i:List Int}{g:Int}(O:k<n)(h:RInv n nb k i g):RInv n nb (k+1) (N0 nb (i,g) k).1 (N0 nb (i,g) k).2:=by
 obtain⟨J,p⟩:=h.rep;have hgk:=h.gk;have u:=h.g0;unfold N0;by_cases c:0<=at0 i k
 .rw[aH c];refine⟨h.l,h.g0,by simp only;omega,h.lt,λv j r=>?_,h.cl,J,λc L=>?_⟩
  .by_cases e:v=k
   .rw[e];exact c
   .exact h.lab v (by omega) r
  .obtain⟨a,b⟩:=p c L;exact⟨by omega,b⟩
 .rw[aD c];have fresh:∀v,v<n->at0 i v≠g:=λv e=>by have:=h.lt v e;omega
  simp only
  obtain⟨f,Y⟩:∃f,f=F7 nb g NN (i.set k g,[(k:Int)]):=⟨_,rfl⟩;rw[<-Y];have iR:∀v,at0 (i.set k g) v=if v=k then g else at0 i v:=λv=>GO (by rw[h.l];exact O)
  have Q:=xe6 (i.set k g);rw[mN,h.l]at Q;have R:at0 i k<0:=(by omega);have core:BInv n nb g k i f []:=by
   rw[Y];refine xjv C u fresh NN _ _ (by rw[cU];simp only[HC];omega) ⟨by simp[h.l],λv=>?_,λa E=>?_,λv j m=>?_⟩
   .rw[iR];by_cases e:v=k
    .subst e;right;rw[aH rfl];exact⟨O,R,rfl,.refl⟩
    .rw[aD e];exact Or.inl rfl
   .rw[kQ]at E;subst E;rw[gA,iR,aH rfl];exact⟨by omega,by omega,rfl⟩
   .rw[iR]at m;by_cases e:v=k
    .left;rw[e];simp
    .rw[aD e]at m;exact absurd m (fresh v j)
  have old:∀v,v<n->0<=at0 i v->at0 f v=at0 i v:=λv j h0=>by
   rcases core.ch v with e|⟨_,e,_⟩
   .exact e
   .omega
  have kg:at0 f k=g:=by
   have mono:∀(F:Nat) (s:List Int×List Int),at0 s.1 k=g->StOK n s->at0 (F7 nb g F s) k=g:=by
    intro F;induction F with
    |zero=>intro s Z _;exact Z
    |succ F ih=>
     intro s Z M;obtain⟨so,K⟩:=s;cases K with
     |nil=>exact Z
     |cons a K=>
      simp only[F7];have hab:=M.q a (eO ..);have W:StOK n (so,K):=⟨M.l,λb o=>M.q b (eA _ o)⟩;refine ih _ ?_ (ez u (nb a.toNat) (so,K) W (C.rng _ (by omega))).1;have keep:∀(D:List Int) (s:List Int×List Int),at0 s.1 k=g->k<s.1.length->at0 (kW g D s).1 k=g/\k<(kW g D s).1.length:=by
       intro D;induction D with
       |nil=>intro s A N;exact⟨A,N⟩
       |cons b D ihb=>
        intro s A N;refine ihb (oX g s b) ?_ ?_
        .unfold oX;split
         .rename_i L;by_cases e:b.toNat=k
          .rw[e]at L;omega
          .simp only
           by_cases o:b.toNat<s.1.length
           .rw[GO o,aD (λx=>e x.symm)];exact A
           .rw[List.set_eq_of_length_le (by omega)];exact A
         .exact A
        .unfold oX;split
         .simpa using N
         .exact N
      exact(keep (nb a.toNat) (so,K) Z (by simp only;have:=M.l;simp only at this;omega)).1
   rw[Y];exact mono NN _ (by simp only;rw[iR,aH rfl]) ⟨by simp[h.l],λa E=>by rw[kQ]at E;subst E;omega⟩
  have X:∀v,v<n->at0 f v=g->∀b∈nb v,at0 f b.toNat=g:=by
   intro v j m b o;obtain⟨b0,b1⟩:=C.rng v j b o;obtain⟨y,rfl⟩:∃y:Nat,b=y:=⟨b.toNat,by omega⟩;rw[gA];have h0:0<=at0 f y:=by
    rcases core.d v j m with h|h
    .simp at h
    .have:=h _ o;rwa[gA]at this
   rcases core.ch y with e|⟨_,_,e,_⟩
   .exfalso;have A:at0 i v<0:=by
     rcases core.ch v with e'|⟨_,e',_⟩
     .exact absurd (e'.symm.trans m) (fresh v j)
     .exact e'
    have:=h.cl y (by omega) (by omega) v (C.sym v y j (by omega) o);rw[gA]at this;omega
   .exact e
  refine⟨core.l,by omega,by omega,λv j=>?_,λv j r=>?_,λv j hv0 b o=>?_,λc=>if(c:Int)<g then J c else k,λc L=>?_⟩
  .have:=h.lt v j;rcases core.ch v with e|⟨_,_,e,_⟩<;>omega
  .by_cases e:v=k
   .rw[e,kg];exact u
   .have:=h.lab v (by omega) r;rw[old v r this];exact this
  .by_cases e:at0 f v=g
   .rw[e];exact X v j e b o
   .have e':at0 f v=at0 i v:=by
     rcases core.ch v with e'|⟨_,_,e',_⟩
     .exact e'
     .exact absurd e' e
    obtain⟨b0,b1⟩:=C.rng v j b o;have:=h.cl v j (by omega) b o;rw[e',<-this];exact old _ (by omega) (by omega)
  .simp only
   by_cases w:(c:Int)<g
   .rw[aH w];obtain⟨a1,a2,a3,a4,a5⟩:=p c w;refine⟨by omega,a2,by rw[old _ a2 (by omega)];exact a3,λv j t=>a4 v j ?_,λP H=>by rw[aH (by omega)];exact a5 P H⟩;rcases core.ch v with e|⟨_,_,e,_⟩
    .rw[<-e];exact t
    .omega
   .have hcg':(c:Int)=g:=(by omega);rw[aD w];refine⟨by omega,O,by rw[kg];exact hcg'.symm,λv j t=>?_,λP H=>?_⟩
    .rcases core.ch v with e|⟨_,e1,_,e2⟩
     .exact absurd (e.symm.trans (t.trans hcg')) (fresh v j)
     .refine⟨?_,e2⟩;apply Classical.byContradiction;intro hlt;have:=h.lab v (by omega) j;omega
    .rw[aH (by omega)];exact(p P (by omega)).1
def xze{n:Nat}{nb:Nat->List Int}(f:n<=200)(g:Sym n nb):RInv n nb n (bj n nb).1 (bj n nb).2:=by
 have b:∀k,k<=n->RInv n nb k ((List.range k).foldl (N0 nb) (List.replicate n (-1),0)).1 ((List.range k).foldl (N0 nb) (List.replicate n (-1),0)).2:=by
  intro k;induction k with
  |zero=>
   intro _;have e:∀v,v<n->at0 (List.replicate n (-1)) v=-1:=λv a=>by rw[fD (by simpa using a)];simp
   refine⟨by simp,by simp,by simp,λv a=>?_,λv a=>by omega,λv a d=>?_,λ_=>0,λc h=>?_⟩
   .simp only[xks,xk5];rw[e v a];omega
   .simp only[xks,xk5]at d;rw[e v a]at d;omega
   .simp only[xks,xk5]at h;omega
  |succ k i=>intro j;rw[qK,HF];exact xr9 f g (by omega) (i (by omega))
 exact b n (bT _)
def x00{l:List Edge}{a b:Int}:b∈A8 l a↔∃e∈l,0<e.wt/\((e.fr=a/\e.to=b)\/(e.fr≠a/\e.to=a/\e.fr=b)):=by
 unfold A8;rw[lS];constructor
 .rintro⟨e,i,d⟩;refine⟨e,i,?_⟩;split at d
  .rename_i j;refine⟨j,?_⟩;split at d
   .rename_i f;rw[kQ]at d;exact Or.inl ⟨f,d.symm⟩
   .rename_i f;split at d
    .rename_i g;rw[kQ]at d;exact Or.inr ⟨f,g,d.symm⟩
    .simp at d
  .simp at d
 .rintro⟨e,i,j,h⟩;refine⟨e,i,?_⟩;rw[aH j];rcases h with ⟨f,g⟩|⟨f,g,m⟩
  .rw[aH f,g];simp
  .rw[aD f,aH g,m];simp
def xzq{n:Nat}{l:List Edge}(d:∀e∈l,EdgeIn n e/\e.fr≠e.to):Sym n (λa=>A8 l (a:Nat)):=by
 refine⟨λa _ b j=>xzr d j,λa b _ _ h=>?_⟩;rw[x00]at h ⊢;obtain⟨e,g,o,h⟩:=h;have m:=(d e g).2;refine⟨e,g,o,?_⟩;rcases h with ⟨i,f⟩|⟨i,f,p⟩
 .right;exact⟨by omega,f,i⟩
 .left;exact⟨p,f⟩
def xx2{n:Nat}{l:List Edge}(b:n<=200)(a:∀e∈l,EdgeIn n e/\e.fr≠e.to):(z8 n l).length=n:=(xze b (xzq a)).l
def ycb{n:Nat}{a b:List Int}{k:Nat}(h:k<n):at0 (wC n a b) k=at0 b k-at0 b (E5 a k):=by rw[fD (by rw[bm];exact h),xzi h]
def Solved.turns{J:Int}{n:Nat}{l:List Edge}{g a j:List Int}(h:Solved J n l g a j)(o:0<=J):∀k,-(J*12000)<=at0 (wC n (z8 n l) a) k/\at0 (wC n (z8 n l) a) k<=J*12000:=by
 obtain⟨P,e,m⟩:=h.t;intro k;by_cases d:k<n
 .rw[ycb d];have p:=e.b k d;have r:=x4b (parts:=z8 n l) (i:=k) (by rw[xx2 h.f.nn h.f.ed];exact d);have u:=e.b (E5 (z8 n l) k) (by omega);omega
 .have:at0 (wC n (z8 n l) a) k=0:=(by unfold at0;rw[eU,H0 (by rw[bm];omega)];rfl);omega
def Solved.inn{J:Int}{n:Nat}{l:List Edge}{d e g:List Int}(h:Solved J n l d e g)(a:Slim J n l):SolIn n l d (wC n (z8 n l) e) g:=by have b:=a.j0;have i:=a.j1;exact⟨h.f.nn,h.f.ll,h.f.ed,h.f.flb,λv=>by have:=h.turns b v;omega,λv=>by have:=h.f.exb a v;omega⟩
def muN(P:Nat->Int)(v:Nat):Nat:=Classical.choose (x1n (P:=λw=>P w=P v) v rfl)
def Rt(P:Nat->Int)(a:List Int)(v:Nat):Prop:=at0 a v=(muN P v:Nat)
instance (P:Nat->Int)(ls:List Int)(v:Nat):Decidable (Rt P ls v):=Int.instDecidableEq ..
def ycj{N:Nat}{but:Int}{k:Nat}(a:k<N):((freshM N).take (k+1)).filter (λi=>!decide (i=but))=((freshM N).take k).filter (λi=>!decide (i=but))++(if(k:Int)=but then[]else[(k:Int)]):=by rw[<-MF a,tT];congr 1;by_cases c:(k:Int)=but<;>simp[c]
def xpc(n:Nat)(P:List Pq)(F:List Int)(i:Int):kI n P (F++[i])=jH (kI n P F) (cL P i):=by unfold kI prs;rw[kY,xgp];rfl
def yct(d:Nat){s p:AV}{l:List Scene}{P:List Pq}(Z:Sl Scene.c s l)(w:Sl Pq.c p P)(t:Right7 l P)(e:Int) :
    RetF (λa=>Ints a (kI l.length P (GT P.length e))) (aG (d+2) [] P2 [.agg [s,p],I e] mem0):=by
 have K:=t.ll;have L:=t.pl;rw[x7o];unfold lu QL;generalize g:(⟨[],1⟩:Mem).new (0,0,2) (.row [s,p] 0 false)=m1;have C:m1.get (0,0,2)=some (.row [s,p] 0 false):=(by rw[<-g];simp);have O:m1.next=1:=(by rw[<-g];rfl);obtain⟨a,M,X,F,hM,A⟩:=xbe d (n:=l.length) (by omega) m1;have Q:M.get (0,0,2)=some (.row [s,p] 0 false):=(by rw[A _ (by show 0<m1.next;omega)];exact C);simp[mem0,Z.one,w.one,g,C,Z.len pK,X];unfold uz;simp[Q,w.len L0];rw[O]at F;refine nQ (N:=P.length) (σ:=Unit) (λn k _ m Y=>Y7 (aG (d+1)) [] 0 n (I e) a p (I P.length) (I k) m Y)
  (λk _ m=>1<m.next/\Gk 1 intE (λid=>id.1=1) m a (kI l.length P (((freshM P.length).take k).filter λi=>!decide (i=e)))) _ ?_ ?_ NN 0 () M _ (by omega) (by rw[cU];omega) ⟨by omega,by simpa[kI,prs,joinsM]using F⟩
 .rintro n k-m Y o ⟨J,u⟩ next;have hk':(k:Int)<(P.length:Int):=(by omega);have R:=w.ix Pq.len o;have D:=λm=>iP (m:=m) (enc:=Pq.c) Pq.len (by omega) o
  have f:=ycj (but:=e) o;have W:=t.pr P[k] (eX o);have y:=xeh o
  have E:(kI l.length P (((freshM P.length).take k).filter λi=>!decide (i=e))).length=l.length:=(xbw (n:=l.length) (λi H=>by
   have:=fresh_mem.mp (GZ (gW.mp H).1)
   exact⟨this,t.at this⟩)).len
  generalize P[k]=q at *
  simp only[Pq.c]at D;simp only[Y7];unfold QM vc;simp[hk',R,D,f6];generalize h:Mem.set _ _ _=m2;have g7:m2.get (0,Y+1+3,7)=some (.row [I q.a,I q.b] 0 false):=(by rw[<-h];simp);have r:Gk 1 intE (λid=>id.1=1) m2 a (kI l.length P (((freshM P.length).take k).filter λi=>!decide (i=e))):=u.frame λj x=>by have hj':j.1=1:=x;rw[<-h,Mem.cP,aD (by rintro rfl;simp at hj'),Mem.dP,aD (by rintro rfl;simp at hj')]
  have n2:m2.next=m.next:=(by rw[<-h];rfl);by_cases c:(k:Int)=e
  .rw[aH c,jX]at f;obtain rfl:e=(k:Int):=c.symm;unfold HR;simp(disch:=omega) [bJ];exact next () m2 _ ⟨by omega,by rw[f];exact r⟩
  .rw[aD c]at f;obtain⟨m3,e1,e2,e3,e4⟩:=xjh d [] r (λj x=>by have hj':j.1=1:=x;omega) (p:=q) (by rw[E];exact W) (by rw[E];omega);simp[c,e1];unfold HR;simp(disch:=omega) [bJ];exact next () m3 _ ⟨by omega,by rw[f,xpc,y];exact e2⟩
 .rintro n-m Y ⟨J,u⟩;rw[dU (by simp[freshM])]at u;simp only[Y7];unfold QM vd;simp;obtain⟨a',h1,h2⟩:=u.sl1 4;exact RetF.mk h2 h1
def xnp(d:Nat){s p:AV}{l:List Scene}{P:List Pq}(Z:Sl Scene.c s l)(e:Sl Pq.c p P)(f:Right7 l P)(b:Int)(m:Mem) :
    ∃a,Ints a (kI l.length P (GT P.length b))/\aI (aG (d+2)) P2 [.agg [s,p],I b] m=some (a,m):=
 qF (by simp[Z.aP,e.aP]) (yct d Z e f b) m
def LT(l:List Scene)(P:List Pq):List Int:=joinsM (freshM l.length) P
def wB(l:List Scene)(P:List Pq)(a:List Int):List Int:=(freshM P.length).filter λi=>!decide (at0 (kB l P a) i.toNat=0)
def uF(l:List Scene)(P:List Pq)(a:List Int)(D i:Int):Int:=if at0 (LT l P) i.toNat=at0 (LT l P) D.toNat then oL l P a i-oL l P a D else 1000000000000
def qX(l:List Scene)(P:List Pq)(a:List Int)(D:Int):List Int:=(freshM l.length).map (uF l P a D)
def xqj{l:List Scene}{P:List Pq}{ph:List Int}{D:Int}{k:Nat}(a:k<l.length):(qX l P ph D).take (k+1)=(qX l P ph D).take k++[uF l P ph D k]:=by rw[jV (by simpa[qX,freshM]using a)];simp[qX,freshM]
def KH{l:List Scene}{P:List Pq}{a:List Int}{D:Int}:(qX l P a D).length=l.length:=by simp[qX,freshM]
def xx8{l:List Scene}{P:List Pq}{ph:List Int}{k:Nat}(a:k<P.length):((freshM P.length).take (k+1)).filter (λi=>!decide (at0 (kB l P ph) i.toNat=0))=((freshM P.length).take k).filter (λi=>!decide (at0 (kB l P ph) i.toNat=0))++(if at0 (kB l P ph) k=0 then[]else[(k:Int)]):=by rw[<-MF a,tT];congr 1;by_cases c:at0 (kB l P ph) k=0<;>simp[c]
def x4x{N k:Nat}(q:Int->Bool):(((freshM N).take k).filter q).length<=N:=by have a:=HD q ((freshM N).take k);have b:((freshM N).take k).length<=N:=(by simp[freshM];omega);omega
def mO(l:List Scene)(P:List Pq)(a b:List Int)(D:Int):Int:=bif !decide (uD l P a b=0)then uD l P a b else bif !(wi D 0 ((l.length:Int)-1))then 6 else bif decide (0<(wB l P a).length)then 26 else 0
def v7(l:List Scene)(P:List Pq)(a b:List Int)(D:Int):List Int:=bif decide (mO l P a b D=0)then qX l P a D else[]
def xW(l:List Scene)(P:List Pq)(a b:List Int)(D:Int):List Int:=bif decide (uD l P a b=0)&&wi D 0 ((l.length:Int)-1)then wB l P a else[]
def LI{a:List Int}(h:∀k,k<a.length->-100000000<=at0 a k/\at0 a k<=100000000):∀k,k<a.length->(at0 a k).natAbs<=100000000:=λk b=>by have:=h k b;omega
def ycx(d:Nat){s p f g:AV}{l:List Scene}{P:List Pq}{h t:List Int}(Z:Sl Scene.c s l)(C:Sl Pq.c p P)(L:Ints f h)(hg:Ints g t)(h1:h.length<1000000)(h2:t.length<1000000)(hfw:Right7 l P->l.length<=12/\l.length<=d+8/\P.length<=19)(D:Int) :
    RetF (λv=>∃a b,v=.tup [a,b,I (mO l P h t D)]/\Ints a (v7 l P h t D)/\Ints b (xW l P h t D)) (aG (d+14) [] DM [.agg [s,p,f,g],I D] mem0):=by
 have fin:∀(e:Int) (m:Mem),e≠0->mO l P h t D=e->xW l P h t D=[]->RetF (λv=>∃a b,v=.tup [a,b,I (mO l P h t D)]/\Ints a (v7 l P h t D)/\Ints b (xW l P h t D)) (some (.tup [nilS,nilS,I e],m)):=λe m h0 he hB=>
  RetF.tup rfl ⟨nilS,nilS,by rw[he],Or.inl ⟨rfl,by unfold v7;rw[he];simp[h0]⟩,Or.inl ⟨rfl,hB⟩⟩
 rw[x7u];unfold mi QX;simp[mem0,Z.one,C.one,L.one,hg.one,xo4 (d+5) Z C L hg h1 h2];by_cases y:uD l P h t=0;rotate_left
 .simp[y];exact fin _ _ y (by unfold mO;simp[y]) (by unfold xW;simp[y])
 have A:=xcl y;have H:=A.r;obtain⟨hl,hld,W⟩:=hfw H;simp[y,xmz];rw[show cW [nilS,nilS] [(0,2,AV.agg [s,p])]=some (.agg [s,p]) by simp[cW,jG]];simp[Z.one,C.one,Z.len pK];rw[bJ];generalize J:Mem.set _ _ _=m1;have E:m1.get (0,0,2)=some (.row [s,p,f,g] 0 false):=(by rw[<-J];simp);have F:m1.get (0,12,8)=some (.row [s,p] 0 false):=(by rw[<-J];simp);have M:m1.next=1:=(by rw[<-J];rfl);simp[K5];cases K:wi D 0 ((l.length:Int)-1)with
 |false=>simp;exact fin 6 _ (by omega) (by unfold mO;simp[y,K]) (by unfold xW;simp[K])
 |true=>
  obtain⟨d0,d1⟩:=o8 K;simp;unfold vi;obtain⟨ms,X,hmc⟩:=xnv d Z C L H hl hld W A.lp (LI A.hp) (by omega) m1;have hml:=FM l P h;simp[F,E,hmc,X.len jZ];refine nQ (N:=P.length) (λn k b m Y=>Y8 (aG (d+13)) [] 0 n (I D) (.ptr (0,0,2) 0 0) (.ptr (0,12,8) 0 0) b ms (I (kB l P h).length) (I k) m Y)
   (λk b m=>(m.get (0,0,2)=some (.row [s,p,f,g] 0 false)/\m.get (0,12,8)=some (.row [s,p] 0 false)/\m.next=1)/\Gr 1 intE 0 48 m b (((freshM P.length).take k).filter λi=>!decide (at0 (kB l P h) i.toNat=0))) _ ?_ ?_ NN 0 nilS m1 _ (by omega) (by rw[cU];omega) ⟨⟨E,F,M⟩,by simpa using Gr.nil⟩
  .rintro n k b m Y hk ⟨⟨E,F,M⟩,w⟩ next;have hk':(k:Int)<((kB l P h).length:Int):=(by omega);have ix:=X.ix gE (show k<(kB l P h).length by omega);have ld:=λm=>nS (m:=m) (show k<(kB l P h).length by omega)
   have j:=xx8 (l:=l) (ph:=h) hk;have hfl:=x4x (N:=P.length) (k:=k) λi=>!decide (at0 (kB l P h) i.toNat=0)
   simp only[Y8];unfold QV vj;by_cases c:at0 (kB l P h) k=0
   .rw[aH c,jX]at j;simp only[bQ,hk',bC,aR,aE,ix,ld,fQ,c,cC,aS];unfold HS;simp(disch:=omega) [bJ];exact next b m _ ⟨⟨E,F,M⟩,by rw[j];exact w⟩
   .rw[aD c]at j;obtain⟨b2,m2,e1,e2,e3,e4⟩:=w.app (s0:=Y+1+10) (bytes:=8) gE (by omega) (by unfold cQ;omega) (k:Int);simp only[bQ,hk',bC,aR,aE,ix,ld];simp[c,nB];rw[show ∀x:Int,elems m.get 1 (.aQ [I x] 1 true)=some (intE x,1)from λ_=>rfl,e1];unfold HS;simp(disch:=omega) [bJ];exact next b2 m2 _ ⟨⟨by rw[e4 _ (by simp)];exact E,by rw[e4 _ (by simp)];exact F,by omega⟩,by rw[j];exact e2⟩
  .rintro n b m Y ⟨⟨E,F,M⟩,w⟩;rw[dU (by simp[freshM])]at w;have hG':Gr 1 intE 0 48 m b (wB l P h):=w;simp only[Y8];unfold QV vk;simp only[hml,bQ,OD,bK,aS,aE,hG'.len jZ,gZ];by_cases c2:0<(wB l P h).length
   .have c2':(0:Int)<((wB l P h).length:Int):=(by omega);have O:mO l P h t D=26:=(by unfold mO;simp[y,K,c2]);simp[c2];obtain⟨b',hb',hfb⟩:=hG'.frzk (k:=3) gE wS;exact RetF.mk (xhs rfl hfb el) ⟨nilS,b',by rw[O],Or.inl ⟨rfl,by unfold v7;simp[O]⟩,by unfold xW;simp[y,K];exact hb'⟩
   .have O:mO l P h t D=0:=(by unfold mO;simp[y,K,c2]);obtain⟨v,hv,hsc⟩:=xba (d+1) Z C L H hl (by omega) W A.lp (LI A.hp) (by omega) m;obtain⟨u,hu,hjc⟩:=xnp (d+11) Z C H (-1) m;rw[xpd]at hu;have c2':¬(0:Int)<((wB l P h).length:Int):=(by omega);simp[c2,F,E,hsc,hjc,Z.eF,C.eF,L.clean,cV,tR,M,Nat.blt];unfold vl;have hul:=((Lab.fresh l.length).joins H.pr).len;simp[hv.len jZ,rJ];refine nQ (N:=l.length) (λn k o m Y=>Y9 (aG (d+13)) [] 0 n (I D) v u o v (I l.length) (I k) m Y)
     (λk o m=>Gk 1 intE (λid=>id.1=0/\(id.2.2=84\/id.2.2=87)) m o ((qX l P h D).take k)) _ ?_ ?_ NN 0 nilS m _ (by omega) (by rw[cU];omega) (by simpa using Gk.nil)
    .rintro n k o m Y hk w next;have hk':(k:Int)<(l.length:Int):=(by omega);have ixv:=hv.ix gE (show k<(mC l.length (lM l.length P (jR (fW l P) l.length P) (kN h))).length by rw[rJ];omega);have Q:=λm=>nS (m:=m) (show k<(mC l.length (lM l.length P (jR (fW l P) l.length P) (kN h))).length by rw[rJ];omega)
     have ixd:=hv.ixI gE (k:=D) d0 (by rw[rJ];omega);have R:=λm=>nS (m:=m) (show D.toNat<(mC l.length (lM l.length P (jR (fW l P) l.length P) (kN h))).length by rw[rJ];omega)
     have ixu:=hu.ix gE (show k<(joinsM (freshM l.length) P).length by omega);have ldu:=λm=>nS (m:=m) (show k<(joinsM (freshM l.length) P).length by omega)
     have ixe:=hu.ixI gE (k:=D) d0 (by omega);have lde:=λm=>nS (m:=m) (show D.toNat<(joinsM (freshM l.length) P).length by omega)
     have gk:=LH (n:=l.length) (φ:=lM l.length P (jR (fW l P) l.length P) (kN h)) (v:=(k:Int)) (by omega) hk';rw[gA]at gk;rw[gk]at Q;rw[LH d0 (by omega)]at R;have bk:=CY H A.lp (LI A.hp) (v:=(k:Int)) (by omega) hk';have bd:=CY H A.lp (LI A.hp) (v:=D) d0 (by omega);have j:=xqj (P:=P) (ph:=h) (D:=D) hk;have hol:((qX l P h D).take k).length<=12:=(by simp[KH];omega);unfold oL at bk bd;simp only[Y9];unfold QW vm;simp only[bQ,hk',bC,aR,aE,ixv,Q,ixu,ldu,ixe,lde,fV];by_cases c:at0 (joinsM (freshM l.length) P) k=at0 (joinsM (freshM l.length) P) D.toNat
     .have hx:uF l P h D k=lM l.length P (jR (fW l P) l.length P) (kN h) k-lM l.length P (jR (fW l P) l.length P) (kN h) D:=(by unfold uF LT oL;rw[gA,aH c]);rw[hx]at j;obtain⟨o2,m2,e1,e2,-,-,e3,-⟩:=w.app (bytes:=8) (id0:=(0,Y+1+22,84)) gE (by omega) ⟨rfl,.inl rfl⟩ (by unfold cQ;omega) (lM l.length P (jR (fW l P) l.length P) (kN h) k-lM l.length P (jR (fW l P) l.length P) (kN h) D);simp only[c,bC,aR,ixd,R,aE,mQ,nB];rw[bJ];simp only[ci];rw[show ∀x:Int,elems m.get 1 (.aQ [I x] 1 true)=some (intE x,1)from λ_=>rfl,e1];unfold HT;simp(disch:=omega) [bJ];exact next o2 m2 _ (by rw[j];exact e2)
     .have hx:uF l P h D k=1000000000000:=(by unfold uF LT;rw[gA,aD c]);rw[hx]at j;obtain⟨o2,m2,e1,e2,-,-,e3,-⟩:=w.app (bytes:=8) (id0:=(0,Y+1+16,87)) gE (by omega) ⟨rfl,.inr rfl⟩ (by unfold cQ;omega) (1000000000000:Int);simp only[c,bK,aS,nB,ci];rw[show ∀x:Int,elems m.get 1 (.aQ [I x] 1 true)=some (intE x,1)from λ_=>rfl,e1];unfold HT;simp(disch:=omega) [bJ];exact next o2 m2 _ (by rw[j];exact e2)
    .rintro n o m Y w;rw[dU (by rw[KH];exact bT _)]at w;simp only[Y9];unfold QW vn;simp;obtain⟨a',ha',hfa⟩:=w.sl1 3;have hO:wB l P h=[]:=sA.mp (by omega);exact RetF.mk (xhs hfa rfl el) ⟨a',nilS,by rw[O],by unfold v7;simp[O];exact ha',Or.inl ⟨rfl,by unfold xW;simp[y,K,hO]⟩⟩
end Go.Ix
namespace Go.Ix
open Go.Proofs
def idxQ{α:Type}(q:α->Bool):Int->List α->Int
 |_,[]=>-1
 |k,x::r=>bif q x then k else idxQ q (k+1) r
def zB{α:Type}(q:α->Bool):∀(l:List α) (k:Int),(idxQ q k l=-1/\∀x∈l,q x=false)\/∃i:Nat,idxQ q k l=k+i/\∃h:i<l.length,q l[i]=true
 |[],k=>.inl ⟨rfl,λx a=>by cases a⟩
 |x::r,k=>by
  rw[idxQ];cases a:q x with
  |true=>exact .inr ⟨0,by simp,by simp,by simpa using a⟩
  |false=>
   rcases zB q r (k+1)with ⟨h,d⟩|⟨i,h,g,f⟩
   .exact .inl ⟨h,λy b=>(eD.mp b).elim (λe=>e▸a) (d y)⟩
   .exact .inr ⟨i+1,by simp only[cond_false,h];omega,by simp;omega,by simpa using f⟩
def dj(z:Nat)(b:aK)(Z:FHs)(d:AV->AV->AV->AV->Mem->Nat->O2)(i j l e:AV)(m:Mem)(Y:Nat):O2:=
 (bU e l).bind λn=>aL n ((aT z i e).bind λf=>(aA true z f m).bind λg=>(fI b Z 2 j [g] m).bind λa=>aL a.1 (some (e,a.2)) ((bI e (I 1)).bind λh=>d i j l h a.2 (Y+11))) (some (I (-1),m))
def U3{α:Type}{d:α->List AV}{z:Nat}(w:∀x,(d x).length=z)(H:0<z){call:aK}{Z:FHs}{q:α->Bool}{a fv:AV}{l:List α}(h:Sl d a l)(O:l.length<=1000000)(f:∀x∈l,∀m,∃o,fI call Z 2 fv [.agg (d x)] m=some (B (q x),o))(X:Nat->AV->AV->AV->AV->Mem->Nat->O2)(y:∀n A C D E m Y,X (n+1) A C D E m Y=dj z call Z (X n) A C D E m Y):∀(b:List α) (k j:Nat) (m:Mem) (Y:Nat),l.drop k=b->b.length<j ->
    ∃p,X j a fv (I l.length) (I k) m Y=some (I (idxQ q k b),p):=by
 intro b;induction b with
 |nil=>intro k j m Y t i;obtain⟨j,rfl⟩:=dF i;have g:¬((k:Int)<(l.length:Int)):=(by have:=gX.mp t;omega);rw[y];unfold dj;simp only[bQ,g,bK,aE,aS,idxQ];exact⟨m,rfl⟩
 |cons e r N=>
  intro k j m Y t i;obtain⟨j,rfl⟩:=dF i;obtain⟨g,K,u⟩:=gK t;have hk':(k:Int)<(l.length:Int):=(by omega);have ix:=h.ix w g;have ld:=λm=>iP (m:=m) w H g
  have F:=eX g;rw[K]at ld F;have J:=gH k (by omega);obtain⟨o,L⟩:=f e F m;rw[y];unfold dj;simp only[bQ,hk',bC,aR,aE,ix,ld,L,idxQ];cases P:q e with
  |true=>simp only[aR];exact⟨_,rfl⟩
  |false=>obtain⟨p,M⟩:=N (k+1) j o (Y+11) u (by simp at i;omega);simp only[aS,dJ,aE,J,M,cond_false];exact⟨p,rfl⟩
def X3{l:List AV}(h:l.all AV.one=true):(AV.agg l).cells.all AV.one=true:=h
variable{ba pa ea:AV}{W:List Bd}{J:List Pn}{C:List Pe}{E O:Int}
abbrev SC(E O:Int)(a b d:AV):List AV:=[I E,I O,a,b,d]
def nmQ{α:Type}(nm:α->ByteArray)(x:ByteArray)(y:α):Bool:=eS (nm y) x
def x22(d:Nat){x:ByteArray}(h:Sl Pn.c pa J)(i:J.length<=1000):∃a,aG (d+2) [] DU [pa,.clo C1 [.aF [T x]]] mem0=some (I (idxQ (nmQ Pn.nm x) 0 J),a):=by
 obtain⟨a,r⟩:=U3 Pn.len (by omega) (q:=nmQ Pn.nm x) h (by omega) (call:=aG (d+1)) (Z:=[]) (fv:=.clo C1 [.aF [T x]]) (λe _ m=>by
  show ∃a,aG (d+1) [] C1 ([.agg e.c]++[.aF [T x]]) m=_
  rw[jM,iX,x96]
  unfold qy VR
  simp only[fN,X3 (show e.c.all AV.one=true from rfl),bB]
  generalize f:Mem.new _ _ _=M
  have g:M.get (m.next,0,2)=some (.row e.c 0 false):=by rw[<-f,Mem.iB];rfl
  have b:∀m,aA false 1 (.aF [T x]) m=some (T x):=λ_=>rfl
  simp only[cM,aE,bO,aM g,bA,Pn.c,cE,b,sF]
  exact⟨_,rfl⟩) (NY (aG (d+1)) [] 0) (λ_ _ _ _ _ _ _=>rfl) J 0 NN ⟨[],1⟩ 4 rfl (by rw[cU];omega)
 refine⟨a,?_⟩;rw[x77];unfold ni RV wp;simp only[h.len pL,aE,mem0];exact r
def x21(d:Nat){x:ByteArray}{sc:AV}{S:List Scene}(h:Sl Scene.c sc S)(i:S.length<=1000):∃a,aG (d+2) [] B4 [sc,.clo C0 [.aF [T x]]] mem0=some (I (idxQ (nmQ Scene.nm x) 0 S),a):=by
 obtain⟨a,r⟩:=U3 Scene.len (by omega) (q:=nmQ Scene.nm x) h (by omega) (call:=aG (d+1)) (Z:=[]) (fv:=.clo C0 [.aF [T x]]) (λe _ m=>by
  show ∃a,aG (d+1) [] C0 ([.agg e.c]++[.aF [T x]]) m=_
  rw[jM,iX,x94]
  unfold qw VP
  simp only[fN,X3 (show e.c.all AV.one=true from rfl),bB]
  generalize f:Mem.new _ _ _=M
  have g:M.get (m.next,0,2)=some (.row e.c 0 false):=by rw[<-f,Mem.iB];rfl
  have b:∀m,aA false 1 (.aF [T x]) m=some (T x):=λ_=>rfl
  simp only[cM,aE,bO,aM g,bA,Scene.c,cE,b,sF]
  exact⟨_,rfl⟩) (H9 (aG (d+1)) [] 0) (λ_ _ _ _ _ _ _=>rfl) S 0 NN ⟨[],1⟩ 4 rfl (by rw[cU];omega)
 refine⟨a,?_⟩;rw[xi2];unfold OK HX RT;simp only[h.len pK,aE,mem0];exact r
def x27(d:Nat){x:ByteArray}(h:Sl Bd.c ba W)(i:W.length<=1000):∃a,aG (d+2) [] B5 [ba,.clo nN [.aF [T x]]] mem0=some (I (idxQ (nmQ Bd.nm x) 0 W),a):=by
 obtain⟨a,r⟩:=U3 Bd.len (by omega) (q:=nmQ Bd.nm x) h (by omega) (call:=aG (d+1)) (Z:=[]) (fv:=.clo nN [.aF [T x]]) (λe _ m=>by
  show ∃a,aG (d+1) [] nN ([.agg e.c]++[.aF [T x]]) m=_
  rw[jM,iX,xi9]
  unfold OQ II
  simp only[fN,X3 e.one,bB]
  generalize f:Mem.new _ _ _=M
  have g:M.get (m.next,0,2)=some (.row e.c 0 false):=by rw[<-f,Mem.iB];rfl
  have b:∀m,aA false 1 (.aF [T x]) m=some (T x):=λ_=>rfl
  simp only[cM,aE,bO,aM g,bA,Bd.c,cE,b,sF]
  exact⟨_,rfl⟩) (I0 (aG (d+1)) [] 0) (λ_ _ _ _ _ _ _=>rfl) W 0 NN ⟨[],1⟩ 4 rfl (by rw[cU];omega)
 refine⟨a,?_⟩;rw[xi3];unfold OL HY RZ;simp only[h.len qT,aE,mem0];exact r
def gw{b:aK}{f g:FuncId}{a r:AV}{x:ByteArray}{M d:Mem}{id:Id}(e:bG a=true)(i:M.get id=some (.row [T x] 0 false))(j:rI r=true)(h:b [] f [a,.clo g [.aF [T x]]] mem0=some (r,d)):dZ b f [a,.clo g [.ptr id 0 0]] M=some (r,M):=by refine rY ?_ h j;have l:Go.Ix.frz M.get bL a=some a:=kD _ 4 e;have m:Go.Ix.frz M.get 5 (.ptr id 0 0)=some (.aF [T x]):=mV i rfl;have n:Go.Ix.frz M.get bL (.clo g [.ptr id 0 0])=some (.clo g [.aF [T x]]):=(by show([AV.ptr id 0 0].mapM (Go.Ix.frz M.get 5)).map (AV.clo g)=_;simp only[eG,fZ,m];rfl);simp only[eG,fZ,l,n];rfl
abbrev FB(E O:Int)(a b d sc e f g:AV):AV:=.agg [.aF (SC E O a b d),sc,e,f,g]
variable{sc pr lv cf:AV}
def xgk(d:Nat){x:ByteArray}(h:Sl Pn.c pa J)(f:J.length<=1000)(g:[sc,pr,lv,cf].all AV.one=true):∃i,aG (d+3) [] wK [FB E O ba pa ea sc pr lv cf,T x] mem0=some (I (idxQ (nmQ Pn.nm x) 0 J),i):=by
 obtain⟨t,r⟩:=x22 d (x:=x) h f;rw[x97];unfold qz VS;have a:(FB E O ba pa ea sc pr lv cf).cells.all AV.one=true:=(by show((AV.aF (SC E O ba pa ea)).one&&[sc,pr,lv,cf].all AV.one)=true;rw[g];rfl);have b:(T x).cells.all AV.one=true:=rfl;simp only[mem0,fN,a,b,bB];generalize e:Mem.new (Mem.new _ _ _) _ _=M;have j:M.get (0,0,2)=some (.row [.aF (SC E O ba pa ea),sc,pr,lv,cf] 0 false):=(by rw[<-e,Mem.qB (by simp),Mem.iB];rfl);have l:M.get (0,1,3)=some (.row [T x] 0 false):=(by rw[<-e,Mem.iB];rfl);have n:cA (.aF (SC E O ba pa ea))=some (.aF (SC E O ba pa ea)):=rfl;have o:aB 3 (.aF (SC E O ba pa ea))=some (.aF [pa,ea]):=rfl;have p:∀m,aA false 1 (.aF [pa,ea]) m=some pa:=λ_=>rfl
 simp only[cM,aE,bO,aM j,bA,cE,n,o,p,gw h.bG l rfl r];exact⟨_,rfl⟩
def xgl(d:Nat){x:ByteArray}(h:Sl Bd.c ba W)(f:W.length<=1000)(g:[sc,pr,lv,cf].all AV.one=true):∃i,aG (d+3) [] oO [FB E O ba pa ea sc pr lv cf,T x] mem0=some (I (idxQ (nmQ Bd.nm x) 0 W),i):=by
 obtain⟨t,r⟩:=x27 d (x:=x) h f;rw[xja];unfold OR IJ;have a:(FB E O ba pa ea sc pr lv cf).cells.all AV.one=true:=(by show((AV.aF (SC E O ba pa ea)).one&&[sc,pr,lv,cf].all AV.one)=true;rw[g];rfl);have b:(T x).cells.all AV.one=true:=rfl;simp only[mem0,fN,a,b,bB];generalize e:Mem.new (Mem.new _ _ _) _ _=M;have j:M.get (0,0,2)=some (.row [.aF (SC E O ba pa ea),sc,pr,lv,cf] 0 false):=(by rw[<-e,Mem.qB (by simp),Mem.iB];rfl);have l:M.get (0,1,3)=some (.row [T x] 0 false):=(by rw[<-e,Mem.iB];rfl);have n:cA (.aF (SC E O ba pa ea))=some (.aF (SC E O ba pa ea)):=rfl;have o:aB 2 (.aF (SC E O ba pa ea))=some (.aF [ba,pa,ea]):=rfl;have p:∀m,aA false 1 (.aF [ba,pa,ea]) m=some ba:=λ_=>rfl
 simp only[cM,aE,bO,aM j,bA,cE,n,o,p,gw h.bG l rfl r];exact⟨_,rfl⟩
def x20(d:Nat){x:ByteArray}{S:List Scene}{p:AV}(h:Sl Scene.c sc S)(f:S.length<=1000)(g:p.one=true)(i:[sc,pr,lv,cf].all AV.one=true):∃j,aG (d+3) [] wJ [.agg [p,sc,pr,lv,cf],T x] mem0=some (I (idxQ (nmQ Scene.nm x) 0 S),j):=by obtain⟨o,n⟩:=x21 d (x:=x) h f;rw[x95];unfold qx VQ;have a:(AV.agg [p,sc,pr,lv,cf]).cells.all AV.one=true:=(by simpa[g]using i);have b:(T x).cells.all AV.one=true:=rfl;simp only[mem0,fN,a,b,bB];generalize e:Mem.new (Mem.new _ _ _) _ _=M;have l:M.get (0,0,2)=some (.row [p,sc,pr,lv,cf] 0 false):=(by rw[<-e,Mem.qB (by simp),Mem.iB];rfl);have m:M.get (0,1,3)=some (.row [T x] 0 false):=(by rw[<-e,Mem.iB];rfl);simp only[cM,aE,bO,aM l,cZ,bA,cE,gw h.bG m rfl n];exact⟨_,rfl⟩
structure OPr where
 pt:Int
 a:Int
 b:Int
 f:Int
def OPr.c(p:OPr):List AV:=[I p.pt,I p.a,I p.b,I p.f]
theorem OPr.len(p:OPr):p.c.length=4:=rfl
theorem OPr.bG(p:OPr):p.c.all aP=true:=rfl
def OPr.q(p:OPr):Pq:=⟨p.a,p.b⟩
def ofPt(i:Int)(S:List OPr):List OPr:=S.filter λp=>decide (p.pt=i)
def on10(n:Nat):List Int:=List.replicate n 1
def xyb(k:Nat):on10 (k+1)=on10 k++[1]:=List.replicate_succ'
def tJ(D:Int)(p:OPr):Int:=if D<0\/p.a<D then p.a else D
def lQ(Q:List OPr):Int:=Q.foldl tJ (-1)
def xzd{S:List OPr}{i:Int}{k:Nat}(a:k<S.length):ofPt i (S.take (k+1))=ofPt i (S.take k)++(if S[k].pt=i then[S[k]]else[]):=by unfold ofPt;rw[jV a,tT];congr 1;by_cases c:S[k].pt=i<;>simp[c]
def xew(S:List OPr)(i:Int):(ofPt i S).length<=S.length:=HD _ _
def BP:prog.underlying qQ=some (.slice JL):=by kernel_rfl
def xaw:tW=[I 0,I 0,I 0,I 0]:=by kernel_rfl
def xat:BG=[nilS,nilS,nilS,nilS]:=by kernel_rfl
def xms:xa0=[nilS,nilS]:=by kernel_rfl
def x0l{p q:Int}{id:Id}{m:Mem}{R:Type}{k:AV->Mem->Option R}:dC [I 0,I 0] [(0,2,.agg [I p,I q])] 1 2 id m k=k (.aQ [I p,I q] 1 true) m:=by simp[dC,jG,eV,qK,eF,AV.one,Value.oneCell']
def ybr{p q:Int}:cW [I 0,I 0] [(0,1,I p),(1,1,I q)]=some (.agg [I p,I q]):=by simp[cW,jG]
theorem x5p{p q:Int}(a:Id->Option Ob):elems a 2 (.aQ [I p,I q] 1 true)=some (Pq.c ⟨p,q⟩,1):=rfl
theorem x5o{x:Int}(a:Id->Option Ob):elems a 1 (.aQ [I x] 1 true)=some (intE x,1):=rfl
abbrev okT10(t:Nat)(id:Id):Prop:=id.1=0/\id.2.2=t
def Gk.apart{α:Type}{z:Nat}{n:α->List AV}{t:Nat}{m:Mem}{a:AV}{l:List α}(h:Gk z n (okT10 t) m a l)(f:Id)(A:f.2.2=t)(x:Int){r w:List Id}(b:∀i∈r++w,i.2.2≠t):aY (tX (.aQ [I x] 1 true),tA f a) (some r,some w)=true:=by
 have g:∀id:Id,id.2.2=t->aY (some [],some [id]) (some r,some w)=true:=λid d=>by
  have E:r.contains id=false:=(by rw[kU,ne_eq,jo];exact λo=>b id (zU _ o) d);have u:w.contains id=false:=(by rw[kU,ne_eq,jo];exact λo=>b id (ji _ o) d);have C:r.all (λi=>!([id].contains i))=true:=by
   rw[dG];intro i p;have:i≠id:=λe=>b i (zU _ p) (e▸d)
   simp[this]
  unfold aY kX;split
  .rfl
  .rfl
  .rename_i j y;simp only[bH,bS]at j y;obtain⟨rfl,rfl⟩:=j;obtain⟨rfl,rfl⟩:=y;have F:w.all (λi=>!([id].contains i))=true:=by
    rw[dG];intro i p;have:i≠id:=λe=>b i (ji _ p) (e▸d)
    simp[this]
   simp only[lJ,dQ,u,C,bW,gC]
  .rename_i j;exact absurd rfl (j _ _ _ _ rfl)
 rcases h with ⟨rfl,-⟩|⟨id,D,⟨-,u⟩,rfl,-⟩
 .exact g f A
 .exact g id u
variable{ba pa ea sc pr lv cf:AV}{E O:Int}
structure TkI (ba pa ea sc pr lv cf:AV) (wv mg:Int) (S:List OPr) (i:Int) (k:Nat) (m:Mem):Prop where
 g2:m.get (0,0,2)=some (.row [.aF (SC wv mg ba pa ea),sc,pr,lv,cf] 0 false)
 g4:m.get (0,1,4)=some (.row [nilS,nilS,nilS,nilS] 0 false)
 g6:∃p f g,m.get (0,8,6)=some (.row [sc,p,f,g] 0 false)/\Gk 2 Pq.c (okT10 36) m p ((ofPt i (S.take k)).map OPr.q)/\Gk 1 intE (okT10 44) m f ((ofPt i (S.take k)).map OPr.f)/\Gk 1 intE (okT10 48) m g (on10 (ofPt i (S.take k)).length)
def TkR(sc:AV)(Q:List OPr)(v:AV):Prop:=∃p f g,v=.tup [.agg [sc,p,f,g],I (lQ Q)]/\Sl Pq.c p (Q.map OPr.q)/\Ints f (Q.map OPr.f)/\Ints g (on10 Q.length)
def ycq(d:Nat){L:List Scene}{S:List OPr}(Z:Sl Scene.c sc L)(hp:Sl OPr.c pr S)(ho:lv.one=true/\cf.one=true)(hS:S.length<=1000)(i:Int) :
    RetF (TkR sc (ofPt i S)) (aG (d+1) [] EV [FB E O ba pa ea sc pr lv cf,I i] mem0):=by
 rw[x93];unfold qv VN;have ho1:(FB E O ba pa ea sc pr lv cf).cells.all AV.one=true:=(by show((AV.aF (SC E O ba pa ea)).one&&[sc,pr,lv,cf].all AV.one)=true;simp[Z.one,hp.one,ho.1,ho.2];rfl);have hb1:cW [nilS,nilS] [(0,1,sc)]=some (.agg [sc,nilS]):=(by simp[cW,jG,Z.cells]);have hb2:cW [nilS,nilS,nilS,nilS] [(0,2,.agg [sc,nilS])]=some (.agg [sc,nilS,nilS,nilS]):=(by simp[cW,jG]);simp only[mem0,fN,ho1,bB];simp[xat,xms,hb1,hb2,Z.one];generalize W:Mem.set _ _ _=m1;have g2:m1.get (0,0,2)=some (.row [.aF (SC E O ba pa ea),sc,pr,lv,cf] 0 false):=(by rw[<-W];simp);have g4:m1.get (0,1,4)=some (.row [nilS,nilS,nilS,nilS] 0 false):=(by rw[<-W];simp);have X:m1.get (0,8,6)=some (.row [sc,nilS,nilS,nilS] 0 false):=(by rw[<-W];simp);unfold yk;simp[g2,hp.len BP];refine nQ (N:=S.length) (σ:=Int) (λn k D m Y=>I7 (aG d) [] 0 n (I i) (.ptr (0,1,4) 0 0) (.ptr (0,8,6) 0 0) (I D) pr (I S.length) (I k) m Y) (λk D m=>D=lQ (ofPt i (S.take k))/\TkI ba pa ea sc pr lv cf E O S i k m) _ ?_ ?_ NN 0 (-1) m1 _ (by omega) (by rw[cU];omega) ⟨rfl,g2,g4,nilS,nilS,nilS,X,Gk.nil,Gk.nil,Gk.nil⟩
 .rintro n k D m Y hk ⟨hD,g2,g4,p,f,g,X,e1,e2,e3⟩ next;have hk':(k:Int)<(S.length:Int):=(by omega);have ix:=hp.ix OPr.len hk;have ld:=λm=>iP (m:=m) (enc:=OPr.c) OPr.len (by omega) hk
  have o:=xzd (i:=i) hk;have hle:(ofPt i (S.take k)).length<=S.length:=iW (xew _ _) (by rw[xH];omega);generalize S[k]=q at *
  have hw:bM ((k:Int)+1)=((k+1:Nat):Int):=(by rw[bJ];rfl);have H:∀D2 l fc2,D2=lQ (ofPt i (S.take (k+1)))->TkI ba pa ea sc pr lv cf E O S i (k+1) l->RetF (TkR sc (ofPt i S)) (AT (aG d) [] 0 (I7 (aG d) [] 0 n) (I i) (.ptr (0,1,4) 0 0) (.ptr (0,8,6) 0 0) (I D2) pr (I S.length) (I k) l fc2):=λD2 l fc2 t x=>by unfold AT;simp only[dJ,aE,hw];exact next D2 l _ ⟨t,x⟩
  simp only[I7];unfold VO ym;simp[hk,ix,ld,xaw,OPr.c];generalize K:Mem.set _ _ _=l;have h9:l.get (0,Y+1+2,9)=some (.row q.c 0 false):=(by rw[<-K];simp[OPr.c]);have y:∀j:Id,j.2.2≠9->l.get j=m.get j:=λj e=>by rw[<-K,Mem.cP,aD (by rintro rfl;simp at e),Mem.dP,aD (by rintro rfl;simp at e)]
  have k2:l.get (0,0,2)=some (.row [.aF (SC E O ba pa ea),sc,pr,lv,cf] 0 false):=(by rw[y _ (by simp)];exact g2);have k4:l.get (0,1,4)=some (.row [nilS,nilS,nilS,nilS] 0 false):=(by rw[y _ (by simp)];exact g4);have k6:l.get (0,8,6)=some (.row [sc,p,f,g] 0 false):=(by rw[y _ (by simp)];exact X);have i1:Gk 2 Pq.c (okT10 36) l p ((ofPt i (S.take k)).map OPr.q):=e1.frame λj e=>y _ (by have:=e.2;omega)
  have i2:Gk 1 intE (okT10 44) l f ((ofPt i (S.take k)).map OPr.f):=e2.frame λj e=>y _ (by have:=e.2;omega)
  have i3:Gk 1 intE (okT10 48) l g (on10 (ofPt i (S.take k)).length):=e3.frame λj e=>y _ (by have:=e.2;omega)
  by_cases c:q.pt=i;rotate_left
  .rw[aD c,jX]at o;simp[c];exact H D l _ (by rw[hD,o]) ⟨k2,k4,p,f,g,k6,by rw[o];exact i1,by rw[o];exact i2,by rw[o];exact i3⟩
  rw[aH c]at o;obtain⟨u,m3,a1,a2,a3,a4,a5,a6⟩:=i1.app (bytes:=16) (id0:=(0,Y+1+17,36)) Pq.len (by omega) ⟨rfl,rfl⟩ (by unfold cQ;simp;omega) q.q;have s6:m3.get (0,8,6)=some (.row [sc,p,f,g] 0 false):=(by rw[a6 _ (by simp[okT10])];exact k6);have st1:pM 1 0 1 u (some (.row [sc,p,f,g] 0 false))=some (.row [sc,u,f,g] 0 false):=(by simp[a3,a4]);have l2:sS false 1 0 2 (some (.row [sc,u,f,g] 0 false))=some f:=rfl;generalize M:m3.set (0,8,6) (.row [sc,u,f,g] 0 false)=m4;have Q:∀j:Id,j≠(0,8,6)->¬okT10 36 j->m4.get j=l.get j:=λj t x=>by rw[<-M,Mem.cP,aD t,a6 _ x]
  have q3:m3.get (0,Y+1+2,9)=some (.row q.c 0 false):=(by rw[a6 _ (by simp[okT10])];exact h9);have j2:Gk 1 intE (okT10 44) m4 f ((ofPt i (S.take k)).map OPr.f):=i2.frame λj e=>Q _ (by rintro rfl;simp[okT10]at e) (by intro h;have t:=h.2;have x:=e.2;omega)
  obtain⟨P,m5,b1,b2,b3,b4,b5,b6⟩:=j2.app (bytes:=8) (id0:=(0,Y+1+26,44)) gE (by omega) ⟨rfl,rfl⟩ (by unfold cQ;simp;omega) q.f;have s5:m5.get (0,8,6)=some (.row [sc,u,f,g] 0 false):=(by rw[b6 _ (by simp[okT10]),<-M];simp);have l3:sS false 1 0 3 (some (.row [sc,u,f,g] 0 false))=some g:=rfl;have j3:Gk 1 intE (okT10 48) m5 g (on10 (ofPt i (S.take k)).length):=i3.frame λj e=>by rw[b6 _ (by intro h;have t:=h.2;have x:=e.2;omega),Q _ (by rintro rfl;simp[okT10]at e) (by intro h;have t:=h.2;have x:=e.2;omega)]
  obtain⟨J,m6,c1,c2,c3,c4,c5,c6⟩:=j3.app (bytes:=8) (id0:=(0,Y+1+30,48)) gE (by omega) ⟨rfl,rfl⟩ (by unfold cQ on10;simp;omega) 1;have s7:m6.get (0,8,6)=some (.row [sc,u,f,g] 0 false):=(by rw[c6 _ (by simp[okT10])];exact s5);have st2:pM 1 0 2 P (some (.row [sc,u,f,g] 0 false))=some (.row [sc,u,P,g] 0 false):=(by simp[b3,b4]);have st3:pM 1 0 3 J (some (.row [sc,u,P,g] 0 false))=some (.row [sc,u,P,J] 0 false):=(by simp[c3,c4]);generalize A:m6.set (0,8,6) (.row [sc,u,P,g] 0 false)=m7;have s8:m7.get (0,8,6)=some (.row [sc,u,P,g] 0 false):=(by rw[<-A];simp);generalize C:m7.set (0,8,6) (.row [sc,u,P,J] 0 false)=m8;have R:∀j:Id,j≠(0,8,6)->¬okT10 36 j->¬okT10 44 j->¬okT10 48 j->m8.get j=l.get j:=λj t x h3 h4=>by rw[<-C,Mem.cP,aD t,<-A,Mem.cP,aD t,c6 _ h4,b6 _ h3,Q _ t x]
  have q9:m8.get (0,Y+1+2,9)=some (.row q.c 0 false):=(by rw[R _ (by simp) (by simp[okT10]) (by simp[okT10]) (by simp[okT10])];exact h9);have n2:m8.get (0,0,2)=some (.row [.aF (SC E O ba pa ea),sc,pr,lv,cf] 0 false):=(by rw[R _ (by simp) (by simp[okT10]) (by simp[okT10]) (by simp[okT10])];exact k2);have n4:m8.get (0,1,4)=some (.row [nilS,nilS,nilS,nilS] 0 false):=(by rw[R _ (by simp) (by simp[okT10]) (by simp[okT10]) (by simp[okT10])];exact k4);have hT:TkI ba pa ea sc pr lv cf E O S i (k+1) m8:=by
   refine⟨n2,n4,u,P,J,by rw[<-C];simp,?_,?_,?_⟩<;>rw[o]
   .rw[kY];exact a2.frame λj e=>by rw[<-C,Mem.cP,aD (by rintro rfl;simp[okT10]at e),<-A,Mem.cP,aD (by rintro rfl;simp[okT10]at e),c6 _ (by intro h;have t:=h.2;have x:=e.2;omega),b6 _ (by intro h;have t:=h.2;have x:=e.2;omega),<-M,Mem.cP,aD (by rintro rfl;simp[okT10]at e)]
   .rw[kY];exact b2.frame λj e=>by rw[<-C,Mem.cP,aD (by rintro rfl;simp[okT10]at e),<-A,Mem.cP,aD (by rintro rfl;simp[okT10]at e),c6 _ (by intro h;have t:=h.2;have x:=e.2;omega)]
   .rw[jL,HC,xyb];exact c2.frame λj e=>by rw[<-C,Mem.cP,aD (by rintro rfl;simp[okT10]at e),<-A,Mem.cP,aD (by rintro rfl;simp[okT10]at e)]
  have F:lQ (ofPt i (S.take (k+1)))=tJ D q:=(by rw[o,hD];unfold lQ;rw[HF];rfl);have ap1:aY (tX (.aQ [I q.f] 1 true),tA (0,Y+1+26,44) f) (tR (.ptr (0,8,6) 0 3))=true:=j2.apart (0,Y+1+26,44) rfl q.f (r:=[(0,8,6)]) (w:=[]) (by simp);have ap2:aY (tX (.aQ [I q.f] 1 true),tA (0,Y+1+26,44) f) (some [],some [(0,Y+1+29,47)])=true:=j2.apart (0,Y+1+26,44) rfl q.f (by simp);have l3':sS false 1 0 3 (some (.row q.c 0 false))=some (I q.f):=rfl;have l1':sS false 1 0 1 (some (.row q.c 0 false))=some (I q.a):=rfl;have l1:sS false 1 0 1 (some (.row [sc,p,f,g] 0 false))=some p:=rfl;simp only[c,bC,cC,aS,X,l1,aE,f6,ybr,x0l,x5p];rw[show Pq.c ⟨q.a,q.b⟩=q.q.c from rfl,a1];simp only[s6,st1,aE,l2,M,q3,l3',nB,ci,x5o,b1,s5,l3,c1,s7,st2,A,st3,C];simp only[ap1,ap2];simp[aY,kX,tR];have hin:tJ D q=D\/tJ D q=q.a:=(by unfold tJ;split<;>simp);by_cases c7:D<0
  .have:tJ D q=q.a:=(by unfold tJ;simp[c7]);simp[c7,q9,OPr.c];exact H _ m8 _ (by rw[F,this]) hT
  .by_cases c8:q.a<D
   .have:tJ D q=q.a:=(by unfold tJ;simp[c8]);simp[c7,c8,q9,OPr.c];exact H _ m8 _ (by rw[F,this]) hT
   .have:tJ D q=D:=(by unfold tJ;simp[c7,c8]);simp[c7,c8,q9,OPr.c];exact H _ m8 _ (by rw[F,this]) hT
 .rintro n D m Y ⟨hD,g2,g4,p,f,g,X,e1,e2,e3⟩;rw[dU (bT _)]at hD e1 e2 e3;have o1:p.one=true/\f.one=true/\g.one=true:=⟨e1.one.2,e2.one.2,e3.one.2⟩;simp only[I7];unfold VO yn;simp[X,g4,Z.one,o1.1,o1.2.1,o1.2.2,gT];generalize K:Mem.set m _ _=l;have hf:∀j:Id,j≠(0,1,4)->l.get j=m.get j:=λj e=>by rw[<-K,Mem.cP,aD e]
  obtain⟨p',t,f1⟩:=(e1.frame (m':=l) λj e=>hf _ (by rintro rfl;simp[okT10]at e)).frz (k:=2) Pq.len Pq.bG;obtain⟨f',x,f2⟩:=(e2.frame (m':=l) λj e=>hf _ (by rintro rfl;simp[okT10]at e)).frz (k:=2) gE wS;obtain⟨g',h3,f3⟩:=(e3.frame (m':=l) λj e=>hf _ (by rintro rfl;simp[okT10]at e)).frz (k:=2) gE wS;have f0:Go.Ix.frz l.get 4 sc=some sc:=kD _ 2 Z.bG;exact RetF.mk (xht (xhy (k:=3) f0 f1 f2 f3) rfl) ⟨p',f',g',by rw[hD],t,x,h3⟩
def YS(d:Nat)(a b c:Int)(m:Mem):aI (aG (d+1)) wE [I a,I b,I c] m=some (B (wi a b c),m):=by refine gG rfl (m':=⟨[],1⟩) ?_ rfl;rw[x8q];unfold oj SV wi;by_cases h:b<=a<;>by_cases e:a<=c<;>simp[h,e,mem0]
def xnf(d:Nat)(a b:Int)(m:Mem)(h:-9223372036854775807<=b/\b<=9223372036854775807):aI (aG (d+2)) R0 [I a,I b] m=some (B (wi a (-b) b),m):=by refine gG rfl (m':=⟨[],1⟩) ?_ rfl;rw[x8r];unfold ol SW;simp(disch:=omega) [mem0,YS,bJ]
end Go.Ix
namespace Go.Ix
open Go.Proofs
variable{ba pa ea sc pr lv cf:AV}{E O:Int}
def LR(L:List Scene)(Q:List OPr):Int:=mO L (Q.map OPr.q) (Q.map OPr.f) (on10 Q.length) (lQ Q)
def fP(L:List Scene)(Q:List OPr):Int:=if lQ Q<0 then 0 else if LR L Q=0 then 2 else 1
def dW(L:List Scene)(Q:List OPr):List Int:=if fP L Q=2 then v7 L (Q.map OPr.q) (Q.map OPr.f) (on10 Q.length) (lQ Q)else[]
def U1(L:List Scene)(Q:List OPr):List Int:=if fP L Q=1 then xW L (Q.map OPr.q) (Q.map OPr.f) (on10 Q.length) (lQ Q)else[]
def jc(L:List Scene)(Q:List OPr)(v:AV):Prop:=∃p o,v=.agg [I (fP L Q),p,o]/\Ints p (dW L Q)/\Ints o (U1 L Q)
def AY:lK=[I 0,nilS,nilS]:=by kernel_rfl
def xyc(n:Nat):(on10 n).length=n:=by simp[on10]
def xj9(d:Nat){L:List Scene}{S:List OPr}(Z:Sl Scene.c sc L)(u:Sl OPr.c pr S)(w:lv.one=true/\cf.one=true)(l:aP lv=true/\aP cf=true)(M:S.length<=1000)(i:Int)(A:L.length<=12/\L.length<=d+8/\(ofPt i S).length<=19) :
    RetF (jc L (ofPt i S)) (aG (d+15) [] C2 [FB E O ba pa ea sc pr lv cf,I i] mem0):=by
 rw[x99];unfold rf VU;have C:(FB E O ba pa ea sc pr lv cf).cells.all AV.one=true:=(by show((AV.aF (SC E O ba pa ea)).one&&[sc,pr,lv,cf].all AV.one)=true;simp[Z.one,u.one,w.1,w.2];rfl);have m:[FB E O ba pa ea sc pr lv cf,I i].all bG=true:=(by show(([AV.aF (SC E O ba pa ea),sc,pr,lv,cf].all aP)&&true)=true;simp[Z.aP,u.aP,l.1,l.2];rfl);simp only[mem0,fN,C,bB];generalize H:Mem.new _ _ _=m1;have N:m1.get (0,0,2)=some (.row [.aF (SC E O ba pa ea),sc,pr,lv,cf] 0 false):=(by rw[<-H];simp);obtain⟨v,⟨p,f,g,rfl,e,h,j⟩,P⟩:=qF m (ycq (d+13) (ba:=ba) (pa:=pa) (ea:=ea) (E:=E) (O:=O) Z u w M i) (m1.new (0,1,4) (.row [I 0,nilS,nilS] 0 false));simp[AY,N];rw[show AV.agg [AV.aF (SC E O ba pa ea),sc,pr,lv,cf]=FB E O ba pa ea sc pr lv cf from rfl,P];simp[xat,Z.one,e.one,h.one,j.one];have n:((ofPt i S).map OPr.f).length<1000000:=(by rw[qL];omega);by_cases c:lQ (ofPt i S)<0
 .have a:fP L (ofPt i S)=0:=(by unfold fP;rw[aH c]);have D:cW [I 0,nilS,nilS] [(0,1,I 0)]=some (.agg [I 0,nilS,nilS]):=(by simp[cW,jG]);simp[c,D,gT];exact RetF.st rfl ⟨nilS,nilS,by rw[a],Or.inl ⟨rfl,by unfold dW;rw[a];rfl⟩,Or.inl ⟨rfl,by unfold U1;rw[a];rfl⟩⟩
 .simp[c];generalize J:Mem.set _ _ _=m2;have K:m2.get (0,1,4)=some (.row [I 0,nilS,nilS] 0 false):=(by rw[<-J];simp);obtain⟨v,⟨x,y,rfl,r,t⟩,F⟩:=qF (by simp[Z.aP,e.aP,h.aP,j.aP]) (ycx d Z e h j n (by rw[xyc];omega) (λ_=>⟨A.1,A.2.1,by rw[qL];exact A.2.2⟩) (lQ (ofPt i S))) m2;simp[F];by_cases o:LR L (ofPt i S)=0
  .have c2':mO L ((ofPt i S).map OPr.q) ((ofPt i S).map OPr.f) (on10 (ofPt i S).length) (lQ (ofPt i S))=0:=o;have a:fP L (ofPt i S)=2:=(by unfold fP;rw[aD c,aH o]);have b:cW [I 0,nilS,nilS] [(0,1,I 2),(1,1,x)]=some (.agg [I 2,x,nilS]):=(by simp[cW,jG,r.cells]);simp[c2',b,r.one,K,gT];exact RetF.st (by simp[r.aP]) ⟨x,nilS,by rw[a],by unfold dW;rw[a];exact r,Or.inl ⟨rfl,by unfold U1;rw[a];rfl⟩⟩
  .have c2':¬mO L ((ofPt i S).map OPr.q) ((ofPt i S).map OPr.f) (on10 (ofPt i S).length) (lQ (ofPt i S))=0:=o;have a:fP L (ofPt i S)=1:=(by unfold fP;rw[aD c,aD o]);have b:cW [I 0,nilS,nilS] [(0,1,I 1),(2,1,y)]=some (.agg [I 1,nilS,y]):=(by simp[cW,jG,t.cells]);simp[c2',b,t.one,K,gT];exact RetF.st (by simp[t.aP]) ⟨nilS,y,by rw[a],Or.inl ⟨rfl,by unfold dW;rw[a];rfl⟩,by unfold U1;rw[a];exact t⟩
def rS(l:List Int):Nat->Nat
 |0=>0
 |k+1=>if at0 l (k+1)=1000000000000 then rS l k else k+1
def kC(l:List Int):Nat:=rS l (l.length-1)
def ct(l:List Int):∀k,rS l k<=k
 |0=>bT _
 |k+1=>by rw[rS];split;exact Nat.le_succ_of_le (ct l k);exact bT _
def xn0(d:Nat){x:AV}{K:Int}{y:AV}{l:List Int}(b:Ints x l)(n:y.one=true/\aP y=true)(u:l.length<=1000)(m:Mem) :
    aI (aG (d+1)) EM [.agg [I K,x,y]] m=some (I (kC l:Nat),m):=by
 refine dT (by simp[b.aP,n.2]) ?_ m;rw[x9a];unfold pm UC xt;generalize a:(⟨[],1⟩:Mem).new (0,0,1) (.row [I K,x,y] 0 false)=m1;have o:m1.get (0,0,1)=some (.row [I K,x,y] 0 false):=(by rw[<-a];simp);simp[mem0,b.one,n.1,a,o,b.len jZ];rw[bJ];have g:∀(k j:Nat) (Y:Nat),k<l.length->k<j->RetF (λv=>v=I (rS l k:Nat)) (I4 (aG d) [] 0 j (.ptr (0,0,1) 0 0) (I (k:Int)) m1 Y):=by
  intro k;induction k with
  |zero=>intro j Y e f;obtain⟨j,rfl⟩:∃i,j=i+1:=⟨j-1,by omega⟩;simp only[I4];unfold IB UD;simp;exact RetF.st rfl rfl
  |succ k t=>
   intro j Y e f;obtain⟨j,rfl⟩:∃i,j=i+1:=⟨j-1,by omega⟩;have ix:=b.ix gE e;have ld:=λm=>nS (m:=m) e
   have h:(0:Int)<((k+1:Nat):Int):=(by omega);have p:bM (((k+1:Nat):Int)-1)=(k:Int):=(by rw[bJ];omega);simp only[I4];unfold IB;simp only[gZ,h,bC,aE,aR,cM,jF,o,U2,zQ,bB,bO,cZ,bA,cE,ix];rw[ld];by_cases c:at0 l (k+1)=1000000000000
   .simp only[aE,fQ,c,bC,cC,aS,mQ,p];rw[rS,aH c];exact t j _ (by omega) (by omega)
   .simp only[aE,fQ,c,bK,bW,aR];rw[rS,aD c];exact RetF.st rfl rfl
 by_cases h:l.length=0
 .obtain⟨j,f⟩:∃j,NN=j+1:=⟨NN-1,by rw[cU]⟩;have:((l.length:Int)-1)=-1:=(by omega);rw[f,this];simp only[I4];unfold IB UD;simp;have r:kC l=0:=(by unfold kC;rw[h];rfl);exact RetF.st rfl (by rw[r];rfl)
 .have:((l.length:Int)-1)=((l.length-1:Nat):Int):=(by omega);rw[this];exact g (l.length-1) NN _ (by omega) (by rw[cU];omega)
def xmt:YG=[I 0,I 0,I 0,I 0,I 0]:=by kernel_rfl
def xnu(d:Nat){x y:AV}{K:Int}{l:List Int}(b:Ints x l)(h:y.one=true/\aP y=true)(j:[sc,pr,lv,cf].all AV.one=true)(e:[sc,pr,lv,cf].all aP=true){k:Nat}(i:k<l.length)(m:Mem) :
    aI (aG (d+1)) EW [FB E O ba pa ea sc pr lv cf,.agg [I K,x,y],I (k:Int)] m=some (.agg [I 0,I O,I (at0 l k),I O,I E],m):=by
 refine dT ?_ ?_ m
 .show(([AV.aF (SC E O ba pa ea),sc,pr,lv,cf].all aP)&&(([I K,x,y].all aP)&&true))=true;rw[dQ,e];simp[b.aP,h.2];rfl
 rw[x98];unfold re VT;have f:(FB E O ba pa ea sc pr lv cf).cells.all AV.one=true:=(by show((AV.aF (SC E O ba pa ea)).one&&[sc,pr,lv,cf].all AV.one)=true;rw[j];rfl);have g:(AV.agg [I K,x,y]).cells.all AV.one=true:=(by simp[b.one,h.1]);simp only[mem0,fN,f,g,bB];generalize a:Mem.new _ _ _=m1;have n:m1.get (0,0,3)=some (.row [.aF (SC E O ba pa ea),sc,pr,lv,cf] 0 false):=(by rw[<-a];simp);have o:m1.get (0,1,4)=some (.row [I K,x,y] 0 false):=(by rw[<-a];simp);have p:cA (.aF (SC E O ba pa ea))=some (.aF (SC E O ba pa ea)):=rfl;have r:aB 1 (.aF (SC E O ba pa ea))=some (.aF [I O,ba,pa,ea]):=rfl;have t:∀m,aA false 1 (.aF [I O,ba,pa,ea]) m=some (I O):=λ_=>rfl
 have u:aB 0 (.aF (SC E O ba pa ea))=some (.aF (SC E O ba pa ea)):=rfl;have w:∀m,aA false 1 (.aF (SC E O ba pa ea)) m=some (I E):=λ_=>rfl
 have ix:=b.ix gE i;have ld:=λm=>nS (m:=m) i
 have A:cW [I 0,I 0,I 0,I 0,I 0] [(1,1,I O),(2,1,I (at0 l k)),(3,1,I O),(4,1,I E)]=some (.agg [I 0,I O,I (at0 l k),I O,I E]):=(by simp[cW,jG]);simp[xmt,n,o,p,r,t,u,w,ix,ld,A,gT];exact RetF.st rfl rfl
def oV(s O E a:Int):Int:=
 if 8192*a < -E*(s+2*O)\/-E*(s-2*O) < -(8192*a)then 2
 else if -(8192*a)<=-E*(s+2*O)/\-E*(s-2*O)<=8192*a then 0 else 1
def xnt(d:Nat){s O E:Int}(Z:-100000000<=s/\s<=100000000)(b:0<=O/\O<=2048)(e:1<=E/\E<=10000)(m:Mem) :
    aI (aG (d+3)) EA [.agg [I 0,I O,I s,I O,I E]] m=some (.tup [I (-E*(s+2*O)),I (-E*(s-2*O)),I 0],m):=by
 refine dT rfl ?_ m;rw[x8s];unfold om SX;generalize a:(⟨[],1⟩:Mem).new (0,0,1) (.row [I 0,I O,I s,I O,I E] 0 false)=m1;have f:m1.get (0,0,1)=some (.row [I 0,I O,I s,I O,I E] 0 false):=(by rw[<-a];simp);have g:wi 0 (-100000000) 100000000=true:=(by decide);have h:wi s (-100000000) 100000000=true:=wi_iff.mpr Z;have i:wi O 0 2048=true:=wi_iff.mpr b;have j:wi E 1 10000=true:=wi_iff.mpr e;have w:(E*(s+2*O)).natAbs<=10000*100004096:=(by rw[jx];exact G6 (by omega) (by omega));have x:(E*(s-2*O)).natAbs<=10000*100004096:=(by rw[jx];exact G6 (by omega) (by omega));have y:-E*(s+2*O)=-(E*(s+2*O)):=Int.neg_mul _ _;have A:-E*(s-2*O)=-(E*(s-2*O)):=Int.neg_mul _ _;have l:bM (s-0)=s:=(by rw[bJ];omega);have n:bM (O+O)=2*O:=(by rw[bJ];omega);have o:bM (0-E)=-E:=(by rw[bJ];omega);have p:bM (s+2*O)=s+2*O:=bJ;have r:bM (s-2*O)=s-2*O:=bJ;have t:bM (-E*(s+2*O))=-E*(s+2*O):=bJ;have u:bM (-E*(s-2*O))=-E*(s-2*O):=bJ;simp only[mem0,fN,jT,dQ,lJ,oM,gC,bB,a];unfold xa HZ xb;simp only[cM,jF,f,U2,zQ,bB,bO,cZ,bA,cE,aE,xnf _ _ _ _ (show(-9223372036854775807:Int)<=100000000/\(100000000:Int)<=9223372036854775807 by omega),YS,g,h,i,j,fA,cC,dO,hJ,dR,bW,cN,cS,aS,mQ,dJ,xdi,CL,l,n,o,p,r,t,u];exact RetF.tup rfl rfl
def xov(d:Nat){s O E b:Int}(Z:-100000000<=s/\s<=100000000)(r:0<=O/\O<=2048)(t:1<=E/\E<=10000)(u:0<=b/\b<=1000000)(m:Mem) :
    aI (aG (d+4)) EB [.agg [I 0,I O,I s,I O,I E],I b] m=some (.tup [I (oV s O E b),I 0],m):=by
 refine dT rfl ?_ m;rw[x8t];unfold oo SY;have w:wi b 0 1000000000=true:=wi_iff.mpr ⟨u.1,by omega⟩;have x:bM (8192*b)=8192*b:=bJ;have y:bM (0-8192*b)=-(8192*b):=(by rw[bJ];omega);have e2':bM (-(8192*b))=-(8192*b):=bJ;have A:∀m:Mem,m.get (0,0,2)=some (.row [I 0,I O,I s,I O,I E] 0 false)->aA true 5 (.ptr (0,0,2) 0 0) m=some (.agg [I 0,I O,I s,I O,I E]):=λm h=>by rw[jF,h];rfl
 simp only[mem0,fN,jT,dQ,lJ,oM,gC,bB];generalize j:Mem.new _ _ _=m1;have C:m1.get (0,0,2)=some (.row [I 0,I O,I s,I O,I E] 0 false):=(by rw[<-j];simp);simp only[A _ C,aE,xnt d Z r t,mB,kZ,lA,fQ,bC,cC,aS,YS,w,fA,CL,x,gZ,gI,dO,xdi,y];have e:oV s O E b=if 8192*b < -E*(s+2*O)\/-E*(s-2*O) < -(8192*b)then 2 else if -(8192*b)<=-E*(s+2*O)/\-E*(s-2*O)<=8192*b then 0 else 1:=rfl
 generalize -E*(s+2*O)=o at *
 generalize -E*(s-2*O)=p at *
 have fin:∀(n:Int) (m:Mem),oV s O E b=n->RetF (λa=>a=.tup [I (oV s O E b),I 0]) (some (.tup [I n,I 0],m)):=λn m h=>by rw[h];exact RetF.tup rfl rfl
 by_cases f:8192*b<o
 .simp[f];exact fin 2 _ (by rw[e,aH (.inl f)])
 .by_cases g:p < -(8192*b)
  .simp[f,g,e2'];exact fin 2 _ (by rw[e,aH (.inr g)])
  .by_cases i:-(8192*b)<=o
   .by_cases l:p<=8192*b
    .simp[f,g,i,l,e2'];exact fin 0 _ (by rw[e,aD (by omega),aH ⟨i,l⟩])
    .simp[f,g,i,l,e2'];exact fin 1 _ (by rw[e,aD (by omega),aD (by omega)])
   .simp[f,g,i,e2'];exact fin 1 _ (by rw[e,aD (by omega),aD (by omega)])
def xgd{l:List Int}:∀(k j:Nat),j<=k->at0 l j≠1000000000000->at0 l (rS l k)≠1000000000000
 |0,j,h,a=>by have:j=0:=(by omega);subst this;exact a
 |k+1,j,h,a=>by
  rw[rS];by_cases c:at0 l (k+1)=1000000000000
  .rw[aH c];have:j≠k+1:=λe=>a (e▸c)
   exact xgd k j (by omega) a
  .rw[aD c];exact c
def xj0{l:List Scene}{P:List Pq}{a:List Int}{D:Int}{v:Nat}(b:v<l.length):at0 (qX l P a D) v=uF l P a D v:=by rw[fD (by rw[KH];exact b)];simp[qX,freshM]
def xqi{l:List Scene}{P:List Pq}{a d:List Int}{D:Int}(h:mO l P a d D=0):uD l P a d=0/\wi D 0 ((l.length:Int)-1)=true/\wB l P a=[]:=by
 unfold mO at h;by_cases b:uD l P a d=0
 .cases e:wi D 0 ((l.length:Int)-1)with
  |false=>simp[b,e]at h
  |true=>
   by_cases f:0<(wB l P a).length
   .simp[b,e,f]at h
   .exact⟨b,rfl,sA.mp (by omega)⟩
 .simp[b]at h
def xf3{L:List Scene}{Q:List OPr}(h:fP L Q=2)(F:L.length<=12)(t:∀p∈Q,p.f.natAbs<=400000):(dW L Q).length=L.length/\0<L.length/\-100000000<=at0 (dW L Q) (kC (dW L Q))/\at0 (dW L Q) (kC (dW L Q))<=100000000:=by
 have x:LR L Q=0:=by
  unfold fP at h;by_cases c:lQ Q<0
  .rw[aH c]at h;omega
  .rw[aD c]at h;by_cases o:LR L Q=0
   .exact o
   .rw[aD o]at h;omega
 have hE':mO L (Q.map OPr.q) (Q.map OPr.f) (on10 Q.length) (lQ Q)=0:=x;obtain⟨C,E,M⟩:=xqi hE';obtain⟨N,O⟩:=o8 E;have j:dW L Q=qX L (Q.map OPr.q) (Q.map OPr.f) (lQ Q):=(by unfold dW;rw[aH h];unfold v7;rw[hE'];rfl);have y:=(xcl C).r;have l:0<L.length:=(by omega);have d:(dW L Q).length=L.length:=(by rw[j,KH]);have A:∀k,k<(Q.map OPr.f).length->(at0 (Q.map OPr.f) k).natAbs<=400000:=λk u=>by rw[fD u,X8];exact t _ (eX _)
 have b:=λ(v:Nat) (H:v<L.length)=>CY y (by simp) A (v:=(v:Int)) (by omega) (by omega);obtain⟨D,n⟩:∃D:Nat,lQ Q=(D:Int):=⟨(lQ Q).toNat,by omega⟩;have g:D<L.length:=(by omega);have i:kC (dW L Q)<L.length:=(by have:=ct (dW L Q) ((dW L Q).length-1);unfold kC;omega);have m:at0 (dW L Q) D≠1000000000000:=(by rw[j,xj0 g,n];unfold uF;rw[aH rfl];omega);have a:at0 (dW L Q) (kC (dW L Q))≠1000000000000:=xgd _ D (by omega) m;refine⟨d,l,?_⟩;have e:at0 (dW L Q) (kC (dW L Q))=uF L (Q.map OPr.q) (Q.map OPr.f) (D:Int) (kC (dW L Q):Nat):=by
  generalize kC (dW L Q)=v at *
  rw[j,xj0 i,n]
 rw[e]at a ⊢;have J:=b D g;have K:=b _ i;unfold uF at a ⊢;split at a
 .rename_i w;rw[aH w];omega
 .exact absurd rfl a
end Go.Ix
namespace Go.Ix
open Go.Proofs
variable{ba pa ea sc pr lv cf:AV}{E O:Int}{J:List Pn}
def selN(q:Nat->Bool)(J:List Pn)(k:Nat):List ByteArray:=((List.range k).filter q).map λj=>((J[j]?).map Pn.nm).getD ⟨#[]⟩
def ZY{q:Nat->Bool}{k:Nat}(a:k<J.length)(h:q k=true):selN q J (k+1)=selN q J k++[J[k].nm]:=by unfold selN;rw[qK,tT,kY];simp[h,a]
def uI{q:Nat->Bool}{k:Nat}(h:q k=false):selN q J (k+1)=selN q J k:=by unfold selN;rw[qK,tT,kY];simp[h]
def w6(q:Nat->Bool)(J:List Pn)(k:Nat):(selN q J k).length<=k:=by unfold selN;rw[qL];have:=HD q (List.range k);simpa using this
def nV(b:Bd)(J:List Pn)(j:Nat):Bool:=((J[j]?).map (rV b)).getD false
def LY{b:Bd}{j:Nat}(h:j<J.length):nV b J j=rV b J[j]:=by unfold nV;rw[eY h];rfl
def nT(L:List Scene)(S:List OPr)(j:Nat):Int:=fP L (ofPt j S)
def MM(L:List Scene)(S:List OPr)(O E a:Int)(j:Nat):Int:=oV (at0 (dW L (ofPt j S)) (kC (dW L (ofPt j S)))) O E a
def sureQ(L:List Scene)(S:List OPr)(O E:Int)(b:Bd)(J:List Pn)(j:Nat):Bool:=nV b J j&&(decide (nT L S j=2)&&decide (MM L S O E b.th j=2))
def pW(L:List Scene)(S:List OPr)(O E:Int)(b:Bd)(J:List Pn)(j:Nat):Bool:=nV b J j&&(decide (nT L S j=2)&&decide (MM L S O E b.th j=1))
def openQ(L:List Scene)(S:List OPr)(b:Bd)(J:List Pn)(j:Nat):Bool:=nV b J j&&decide (nT L S j=1)
def blindQ(L:List Scene)(S:List OPr)(b:Bd)(J:List Pn)(j:Nat):Bool:=nV b J j&&decide (nT L S j=0)
def cntJ(b:Bd)(J:List Pn)(k:Nat):Nat:=((List.range k).filter (nV b J)).length
def xis{b:Bd}{k:Nat}:cntJ b J (k+1)=cntJ b J k+(if nV b J k=true then 1 else 0):=by unfold cntJ;rw[qK,tT,jL];by_cases c:nV b J k=true<;>simp[c]
def xit(b:Bd)(J:List Pn)(k:Nat):cntJ b J k<=k:=by unfold cntJ;have:=HD (nV b J) (List.range k);simpa using this
def mayN(L:List Scene)(S:List OPr)(O E:Int)(b:Bd)(J:List Pn)(k:Nat):Bool:=(List.range k).any (pW L S O E b J)
def LQ{L:List Scene}{S:List OPr}{b:Bd}{k:Nat}:mayN L S O E b J (k+1)=(mayN L S O E b J k||pW L S O E b J k):=by unfold mayN;rw[qK,xk8];simp
abbrev okW(t:Nat)(id:Id):Prop:=1<=id.1/\id.2.2=t
def vS:prog.underlying gR=some (.slice cF):=by kernel_rfl
structure AI (ba pa ea sc pr lv cf:AV) (wv mg:Int) (L:List Scene) (S:List OPr) (b:Bd) (pl:List Pn) (i:Int) (k:Nat) (m:Mem):Prop where
 g2:m.get (0,0,2)=some (.row [.aF (SC wv mg ba pa ea),sc,pr,lv,cf] 0 false)
 g3:m.get (0,1,3)=some (.row [I i] 0 false)
 g4:m.get (0,2,4)=some (.row [I 0,nilS,nilS,nilS] 0 false)
 g5:∃s o l,m.get (0,3,5)=some (.row [I 0,s,o,l] 0 false)/\Gk 1 tE (okW 57) m s (selN (sureQ L S mg wv b pl) pl k)/\Gk 1 tE (okW 78) m o (selN (openQ L S b pl) pl k)/\Gk 1 tE (okW 70) m l (selN (blindQ L S b pl) pl k)
 g6:m.get (0,4,6)=some (.row [I (cntJ b pl k:Nat)] 0 false)
 g7:m.get (0,5,7)=some (.row [B (mayN L S mg wv b pl k)] 0 false)
 nx:1<=m.next
def AI.fr{L:List Scene}{S:List OPr}{b:Bd}{i:Int}{k:Nat}{m e:Mem}(h:AI ba pa ea sc pr lv cf E O L S b J i k m)(C:m.next<=e.next)(a:∀j:Id,j.1=0->e.get j=m.get j)(f:∀j:Id,j.2.2=57\/j.2.2=78\/j.2.2=70->e.get j=m.get j):AI ba pa ea sc pr lv cf E O L S b J i k e:=by obtain⟨g,n,p,⟨s,o,l,r,t,u,x⟩,y,A,D⟩:=h;exact⟨by rw[a _ rfl];exact g,by rw[a _ rfl];exact n,by rw[a _ rfl];exact p,⟨s,o,l,by rw[a _ rfl];exact r,t.frame λj d=>f _ (.inl d.2),u.frame λj d=>f _ (.inr (.inl d.2)),x.frame λj d=>f _ (.inr (.inr d.2))⟩,by rw[a _ rfl];exact y,by rw[a _ rfl];exact A,by omega⟩
def AI.no{L:List Scene}{S:List OPr}{b:Bd}{i:Int}{k:Nat}{m:Mem}(h:AI ba pa ea sc pr lv cf E O L S b J i k m)(a:nV b J k=false):AI ba pa ea sc pr lv cf E O L S b J i (k+1) m:=by
 obtain⟨d,e,f,⟨s,o,l,g,j,n,p⟩,r,t,u⟩:=h;refine⟨d,e,f,⟨s,o,l,g,?_,?_,?_⟩,?_,?_,u⟩
 .rw[uI (by unfold sureQ;rw[a];rfl)];exact j
 .rw[uI (by unfold openQ;rw[a];rfl)];exact n
 .rw[uI (by unfold blindQ;rw[a];rfl)];exact p
 .rw[xis,aD (by rw[a];decide)];exact r
 .rw[LQ,show pW L S O E b J k=false by unfold pW;rw[a];rfl,td];exact t
theorem fh(x:ByteArray)(a:Id->Option Ob):elems a 1 (.aQ [T x] 1 true)=some (tE x,1):=rfl
def AI.yes(d:Nat){W:List Bd}{L:List Scene}{S:List OPr}(w:Sl Bd.c ba W)(A:Sl Pn.c pa J)(Z:Sl Scene.c sc L)(hp:Sl OPr.c pr S)(D:aP lv=true/\aP cf=true)(ho:lv.one=true/\cf.one=true)(hcl:eF lv=true/\eF cf=true)(hpl:J.length<=1000)(hS:S.length<=1000)(hm:0<=O/\O<=2048)(hw:1<=E/\E<=10000)(hL:L.length<=12/\L.length<=d+8)(hQ:∀j:Nat,(ofPt j S).length<=19)(P:∀p∈S,p.f.natAbs<=400000){i:Nat}(hi:i<W.length)(hth:0<=W[i].th/\W[i].th<=1000000)(hs0:FHs)(k:Nat)(hk:k<J.length)(m:Mem)(hb:rV W[i] J[k]=true)(hI:AI ba pa ea sc pr lv cf E O L S W[i] J i k m) :
    ∃Q,IL (aG (d+15)) hs0 m.next (.ptr (0,0,2) 0 0) (.ptr (0,1,3) 0 0) (.ptr (0,3,5) 0 0) (.ptr (0,4,6) 0 0) (.ptr (0,5,7) 0 0) (I (k:Int)) ⟨m.hp,m.next+1⟩ 0=some Q/\AI ba pa ea sc pr lv cf E O L S W[i] J i (k+1) Q:=by
 have H:nV W[i] J k=true:=(by rw[LY hk];exact hb);obtain⟨m1,N⟩:∃m1:Mem,m1=⟨m.hp,m.next+1⟩:=⟨_,rfl⟩;have hI1:AI ba pa ea sc pr lv cf E O L S W[i] J i k m1:=hI.fr (by rw[N];exact vK _) (λj _=>by rw[N];rfl) (λj _=>by rw[N];rfl);have hnx:=hI.nx;rw[<-N];generalize hu:m.next=u at *
 have n1:m1.next=u+1:=(by rw[N]);obtain⟨a2,a3,a4,⟨s,o,l,a5,e1,e2,e3⟩,a6,a7,nx⟩:=hI1;have hcl1:=xit W[i] J k;have hcw:bM (((cntJ W[i] J k:Nat):Int)+1)=((cntJ W[i] J (k+1):Nat):Int):=(by rw[xis,aH H,bJ];omega);generalize hm2:m1.set (0,4,6) (.row [I ((cntJ W[i] J (k+1):Nat):Int)] 0 false)=m2;have f2:∀j:Id,j≠(0,4,6)->m2.get j=m1.get j:=λj e=>by rw[<-hm2,Mem.cP,aD e]
 have b2:m2.get (0,0,2)=some (.row [.aF (SC E O ba pa ea),sc,pr,lv,cf] 0 false):=(by rw[f2 _ (by simp)];exact a2);have ixp:=A.ix Pn.len hk;have ldn:∀m,aA false 1 (.aF ((J.drop k).flatMap Pn.c)) m=some (T J[k].nm):=λm=>by rw[fT hk,dN];rfl
 have q1:cA (.aF (SC E O ba pa ea))=some (.aF (SC E O ba pa ea)):=rfl;have q2:aB 3 (.aF (SC E O ba pa ea))=some (.aF [pa,ea]):=rfl;have q3:∀m,aA false 1 (.aF [pa,ea]) m=some pa:=λ_=>rfl
 have q4:aB 0 (.aF ((J.drop k).flatMap Pn.c))=some (.aF ((J.drop k).flatMap Pn.c)):=rfl;have l5:∀m:Mem,m.get (0,0,2)=some (.row [.aF (SC E O ba pa ea),sc,pr,lv,cf] 0 false)->aA true 5 (.ptr (0,0,2) 0 0) m=some (FB E O ba pa ea sc pr lv cf):=λm h=>by rw[jF,h];rfl
 have lp0:∀m:Mem,m.get (0,0,2)=some (.row [.aF (SC E O ba pa ea),sc,pr,lv,cf] 0 false)->aA false 1 (.ptr (0,0,2) 0 0) m=some (.aF (SC E O ba pa ea)):=λm h=>by rw[jF,h];rfl
 have hstl:[FB E O ba pa ea sc pr lv cf,I (k:Int)].all bG=true:=(by show(([AV.aF (SC E O ba pa ea),sc,pr,lv,cf].all aP)&&true)=true;simp[Z.aP,hp.aP,D.1,D.2];rfl);obtain⟨v,⟨x,y,rfl,hx,hy⟩,hlk⟩:=qF hstl (xj9 d (ba:=ba) (pa:=pa) (ea:=ea) (E:=E) (O:=O) Z hp ho D hS (k:Int) ⟨hL.1,hL.2,hQ k⟩) m2;have hb1:([I (fP L (ofPt k S)),x,y]:List AV).all AV.one=true:=(by simp[hx.one,hy.one]);unfold IL za;have l6:aA false 1 (.ptr (0,4,6) 0 0) m1=some (I ((cntJ W[i] J k:Nat):Int)):=(by rw[jF,a6];rfl);have s6:∀{R:Type} (K:Mem->Option R),aZ 1 (.ptr (0,4,6) 0 0) (I ((cntJ W[i] J (k+1):Nat):Int)) m1 K=K m2:=λK=>by rw[rC,a6,<-hm2];rfl
 have p0:aB 0 (.ptr (0,0,2) 0 0)=some (.ptr (0,0,2) 0 0):=rfl;have S10:∀(m:Mem) (sf:Nat) {R:Type} (K:Mem->Option R),aZ 3 (.ptr (u,sf,10) 0 0) (.agg [I (fP L (ofPt k S)),x,y]) (m.new (u,sf,10) (.row lK 0 false)) K=K ((m.new (u,sf,10) (.row lK 0 false)).set (u,sf,10) (.row [I (fP L (ofPt k S)),x,y] 0 false)):=λm sf R K=>by rw[rC,Mem.iB,AY,CA];simp[hb1]
 simp only[l6,aE,dJ,hcw,s6,p0,lp0 _ b2,q1,q2,q3,ixp,q4,ldn,l5 _ b2,hlk,kA,S10];generalize hm3:Mem.set _ _ _=m3;have X:∀j:Id,j.2.2≠10->m3.get j=m2.get j:=λj e=>by rw[<-hm3,Mem.cP,aD (by rintro rfl;simp at e),Mem.dP,aD (by rintro rfl;simp at e)]
 have g10:m3.get (u,0+1+16,10)=some (.row [I (fP L (ofPt k S)),x,y] 0 false):=(by rw[<-hm3];simp);have n3:m3.next=u+1:=(by rw[<-hm3];show m2.next=u+1;rw[<-hm2];exact n1);have c2:m3.get (0,0,2)=some (.row [.aF (SC E O ba pa ea),sc,pr,lv,cf] 0 false):=(by rw[X _ (by simp)];exact b2);have c3:m3.get (0,1,3)=some (.row [I (i:Int)] 0 false):=(by rw[X _ (by simp),f2 _ (by simp)];exact a3);have c4:m3.get (0,2,4)=some (.row [I 0,nilS,nilS,nilS] 0 false):=(by rw[X _ (by simp),f2 _ (by simp)];exact a4);have c5:m3.get (0,3,5)=some (.row [I 0,s,o,l] 0 false):=(by rw[X _ (by simp),f2 _ (by simp)];exact a5);have c6:m3.get (0,4,6)=some (.row [I ((cntJ W[i] J (k+1):Nat):Int)] 0 false):=(by rw[X _ (by simp),<-hm2];simp);have c7:m3.get (0,5,7)=some (.row [B (mayN L S O E W[i] J k)] 0 false):=(by rw[X _ (by simp),f2 _ (by simp)];exact a7);have d1:Gk 1 tE (okW 57) m3 s (selN (sureQ L S O E W[i] J) J k):=e1.frame λj e=>by rw[X _ (by have:=e.2;omega),f2 _ (by rintro rfl;simp[okW]at e)]
 have d2:Gk 1 tE (okW 78) m3 o (selN (openQ L S W[i] J) J k):=e2.frame λj e=>by rw[X _ (by have:=e.2;omega),f2 _ (by rintro rfl;simp[okW]at e)]
 have d3:Gk 1 tE (okW 70) m3 l (selN (blindQ L S W[i] J) J k):=e3.frame λj e=>by rw[X _ (by have:=e.2;omega),f2 _ (by rintro rfl;simp[okW]at e)]
 have C:nT L S k=fP L (ofPt k S):=rfl;have l10:aA false 1 (.ptr (u,0+1+16,10) 0 0) m3=some (I (fP L (ofPt k S))):=(by rw[jF,g10];rfl);have p10:aB 0 (.ptr (u,0+1+16,10) 0 0)=some (.ptr (u,0+1+16,10) 0 0):=rfl;unfold zb yp yq yr;simp only[p10,aE,l10,fV];have M:∀Q:Mem,Q.get (0,4,6)=m3.get (0,4,6)->Q.get (0,4,6)=some (.row [I ((cntJ W[i] J (k+1):Nat):Int)] 0 false):=λQ h=>h.trans c6
 have hsl:(selN (sureQ L S O E W[i] J) J k).length<=1000:=iW (w6 _ _ _) (by omega);have hol:(selN (openQ L S W[i] J) J k).length<=1000:=iW (w6 _ _ _) (by omega);have hbl:(selN (blindQ L S W[i] J) J k).length<=1000:=iW (w6 _ _ _) (by omega);have hr:∀n:Nat,n<=1000->cQ (n+1) 16:=λn h=>by unfold cQ;omega
 have hcase:fP L (ofPt k S)=0\/fP L (ofPt k S)=1\/fP L (ofPt k S)=2:=(by unfold fP;split;exact .inl rfl;split;exact .inr (.inr rfl);exact .inr (.inl rfl));rcases hcase with K0|K1|K2
 ·
  have r1:sureQ L S O E W[i] J k=false:=(by unfold sureQ;rw[C,K0];simp);have r2:openQ L S W[i] J k=false:=(by unfold openQ;rw[C,K0];simp);have r3:blindQ L S W[i] J k=true:=(by unfold blindQ;rw[C,K0,H];rfl);have r4:pW L S O E W[i] J k=false:=(by unfold pW;rw[C,K0];simp);obtain⟨l',g,A1,A2,A3,A4,A5,A6⟩:=d3.app (bytes:=16) (id0:=(u,0+1+20+2+4,70)) oF (by omega) ⟨hnx,rfl⟩ (hr _ hbl) J[k].nm;have g5:g.get (0,3,5)=some (.row [I 0,s,o,l] 0 false):=(by rw[A6 _ (by simp[okW])];exact c5);have st:pM 1 0 3 l' (some (.row [I 0,s,o,l] 0 false))=some (.row [I 0,s,o,l'] 0 false):=(by simp[A3,A4]);have lb:aA false 1 (.ptr (0,3,5) 0 3) m3=some l:=(by rw[jF,c5];rfl);have p3:aB 3 (.ptr (0,3,5) 0 0)=some (.ptr (0,3,5) 0 3):=rfl;unfold yx;simp only[K0,bC,aR,p3,aE,lb,D0,fh,A1,rC,g5,st];generalize r:g.set (0,3,5) _=m5;have t:∀j:Id,j≠(0,3,5)->¬okW 70 j->m5.get j=m3.get j:=λj w A=>by rw[<-r,Mem.cP,aD w,A6 _ A]
  refine⟨m5,rfl,by rw[t _ (by simp) (by simp[okW])];exact c2,by rw[t _ (by simp) (by simp[okW])];exact c3,by rw[t _ (by simp) (by simp[okW])];exact c4,⟨s,o,l',by rw[<-r];simp,?_,?_,?_⟩,M m5 (t _ (by simp) (by simp[okW])),by rw[t _ (by simp) (by simp[okW]),LQ,r4,td];exact c7,by rw[<-r];show 1<=g.next;rw[A5,n3];omega⟩
  .rw[uI r1];exact d1.frame λj e=>t _ (by rintro rfl;simp[okW]at e) (by intro h;have w:=h.2;have A:=e.2;omega)
  .rw[uI r2];exact d2.frame λj e=>t _ (by rintro rfl;simp[okW]at e) (by intro h;have w:=h.2;have A:=e.2;omega)
  .rw[ZY hk r3];exact A2.frame λj e=>by rw[<-r,Mem.cP,aD (by rintro rfl;simp[okW]at e)]
 ·
  have r1:sureQ L S O E W[i] J k=false:=(by unfold sureQ;rw[C,K1];simp);have r2:openQ L S W[i] J k=true:=(by unfold openQ;rw[C,K1,H];rfl);have r3:blindQ L S W[i] J k=false:=(by unfold blindQ;rw[C,K1];simp);have r4:pW L S O E W[i] J k=false:=(by unfold pW;rw[C,K1];simp);obtain⟨o',g,A1,A2,A3,A4,A5,A6⟩:=d2.app (bytes:=16) (id0:=(u,0+1+20+2+2+4,78)) oF (by omega) ⟨hnx,rfl⟩ (hr _ hol) J[k].nm;have g5:g.get (0,3,5)=some (.row [I 0,s,o,l] 0 false):=(by rw[A6 _ (by simp[okW])];exact c5);have st:pM 1 0 2 o' (some (.row [I 0,s,o,l] 0 false))=some (.row [I 0,s,o',l] 0 false):=(by simp[A3,A4]);have lb:aA false 1 (.ptr (0,3,5) 0 2) m3=some o:=(by rw[jF,c5];rfl);have p3:aB 2 (.ptr (0,3,5) 0 0)=some (.ptr (0,3,5) 0 2):=rfl;unfold yw;simp only[K1,show decide ((1:Int)=0)=false from rfl,bC,aR,aS,p3,aE,lb,D0,fh,A1,rC,g5,st];generalize r:g.set (0,3,5) _=m5;have t:∀j:Id,j≠(0,3,5)->¬okW 78 j->m5.get j=m3.get j:=λj w A=>by rw[<-r,Mem.cP,aD w,A6 _ A]
  refine⟨m5,rfl,by rw[t _ (by simp) (by simp[okW])];exact c2,by rw[t _ (by simp) (by simp[okW])];exact c3,by rw[t _ (by simp) (by simp[okW])];exact c4,⟨s,o',l,by rw[<-r];simp,?_,?_,?_⟩,M m5 (t _ (by simp) (by simp[okW])),by rw[t _ (by simp) (by simp[okW]),LQ,r4,td];exact c7,by rw[<-r];show 1<=g.next;rw[A5,n3];omega⟩
  .rw[uI r1];exact d1.frame λj e=>t _ (by rintro rfl;simp[okW]at e) (by intro h;have w:=h.2;have A:=e.2;omega)
  .rw[ZY hk r2];exact A2.frame λj e=>by rw[<-r,Mem.cP,aD (by rintro rfl;simp[okW]at e)]
  .rw[uI r3];exact d3.frame λj e=>t _ (by rintro rfl;simp[okW]at e) (by intro h;have w:=h.2;have A:=e.2;omega)
 ·
  have r2:openQ L S W[i] J k=false:=(by unfold openQ;rw[C,K2];simp);have r3:blindQ L S W[i] J k=false:=(by unfold blindQ;rw[C,K2];simp);obtain⟨y1,y2,y3,y4⟩:=xf3 K2 hL.1 λp hp'=>P p (gW.mp hp').1
  have hlt:kC (dW L (ofPt k S))<(dW L (ofPt k S)).length:=(by have:=ct (dW L (ofPt k S)) ((dW L (ofPt k S)).length-1);unfold kC;omega);have wl:=λm=>xn0 (d+14) (K:=fP L (ofPt k S)) hx (y:=y) ⟨hy.one,hy.aP⟩ (by rw[y1];omega) m
  have wm:=λm=>xnu (d+14) (ba:=ba) (pa:=pa) (ea:=ea) (E:=E) (O:=O) (sc:=sc) (pr:=pr) (lv:=lv) (cf:=cf) (K:=fP L (ofPt k S)) hx (y:=y) ⟨hy.one,hy.aP⟩ (by simp[Z.one,hp.one,ho.1,ho.2]) (by simp[Z.aP,hp.aP,D.1,D.2]) hlt m
  have we:=λm=>xov (d+11) (s:=at0 (dW L (ofPt k S)) (kC (dW L (ofPt k S)))) ⟨y3,y4⟩ hm hw hth m
  have ixb:=w.ix Bd.len hi;have x1:aB 2 (.aF ((W.drop i).flatMap Bd.c))=some (.aF (((W.drop i).flatMap Bd.c).drop 2)):=rfl;have x2:∀m,aA false 1 (.aF (((W.drop i).flatMap Bd.c).drop 2)) m=some (I W[i].th):=λm=>by rw[fT hi,dN];rfl
  have q5:aB 2 (.aF (SC E O ba pa ea))=some (.aF [ba,pa,ea]):=rfl;have q6:∀m,aA false 1 (.aF [ba,pa,ea]) m=some ba:=λ_=>rfl
  have l3:aA false 1 (.ptr (0,1,3) 0 0) m3=some (I (i:Int)):=(by rw[jF,c3];rfl);have l33:aA true 3 (.ptr (u,0+1+16,10) 0 0) m3=some (.agg [I (fP L (ofPt k S)),x,y]):=(by rw[jF,g10];rfl);have hM1:cB 0 [.agg [I (fP L (ofPt k S)),x,y]]=2:=(by rw[wO,show([.agg [I (fP L (ofPt k S)),x,y]]:List AV).all clean=true by simp[clean,hx.eF,hy.eF]];rfl);have hM2:∀n:Int,cB 0 [FB E O ba pa ea sc pr lv cf,.agg [I (fP L (ofPt k S)),x,y],I n]=2:=λn=>by rw[wO,show([FB E O ba pa ea sc pr lv cf,.agg [I (fP L (ofPt k S)),x,y],I n]:List AV).all clean=true by simp[clean,hx.eF,hy.eF,Z.eF,hp.eF,hcl.1,hcl.2];rfl];rfl
  unfold yu;simp only[K2,show decide ((2:Int)=0)=false from rfl,show decide ((2:Int)=1)=false from rfl,aS];rw[K2]at l33 wl wm hM1 hM2;simp only[l5 _ c2,l33,aE,wl,wm,p0,lp0 _ c2,q1,q5,q6,l3,ixb,x1,x2,we,mB,kZ,lA,hM1,hM2];have gP:∀(id:Id) (F n:Nat),id.1<n->cV (some n) (tR (.ptr id 0 F)) 2=true:=λid F n h=>by simp[cV,tR,Nat.blt,Nat.ble_eq];omega
  have gN:∀(id:Id) (F:Nat),cV none (tR (.ptr id 0 F)) 2=true:=λid F=>rfl
  have gL:∀(l:List AV) (n:Nat),cV (some n) (tR (.aF l)) 2=true:=λl n=>rfl
  have hn0:∀a b:Nat,((0,a,b):Id).1<m3.next:=λa b=>by show 0<m3.next;omega
  simp only[gP _ _ _ (hn0 _ _),gN,gL,show Nat.ble 1 2=true from rfl,gC,bB];have hE:MM L S O E W[i].th k=oV (at0 (dW L (ofPt k S)) (kC (dW L (ofPt k S)))) O E W[i].th:=rfl;generalize hex:oV (at0 (dW L (ofPt k S)) (kC (dW L (ofPt k S)))) O E W[i].th=ex at *
  have r1:sureQ L S O E W[i] J k=decide (ex=2):=(by unfold sureQ;rw[C,K2,hE,H];simp);have r4:pW L S O E W[i] J k=decide (ex=1):=(by unfold pW;rw[C,K2,hE,H];simp);have fin:∀(g:Mem) (Y:Nat) (s':AV),(∀j:Id,j≠(0,3,5)->¬okW 57 j->g.get j=m3.get j)->g.next=m3.next->g.get (0,3,5)=some (.row [I 0,s',o,l] 0 false)->Gk 1 tE (okW 57) g s' (selN (sureQ L S O E W[i] J) J (k+1)) ->
   ∃Q,IK (aG (d+15)) hs0 u (.ptr (0,5,7) 0 0) (I ex) g Y=some Q/\AI ba pa ea sc pr lv cf E O L S W[i] J i (k+1) Q:=λg Y s' P hn g5 hG=>by
   have g7:g.get (0,5,7)=some (.row [B (mayN L S O E W[i] J k)] 0 false):=(by rw[P _ (by simp) (by simp[okW])];exact c7);have hval:mayN L S O E W[i] J (k+1)=(mayN L S O E W[i] J k||decide (ex=1)):=(by rw[LQ,r4]);refine⟨g.set (0,5,7) (.row [B (mayN L S O E W[i] J (k+1))] 0 false),?_,?_⟩
   .unfold IK;rw[hval];have l7:aA false 1 (.ptr (0,5,7) 0 0) g=some (B (mayN L S O E W[i] J k)):=(by rw[jF,g7];rfl);clear hval;generalize mayN L S O E W[i] J k=bb at g7 l7 ⊢;cases bb<;>simp[l7,g7]
   .have h5:∀j:Id,j≠(0,5,7)->(g.set (0,5,7) (.row [B (mayN L S O E W[i] J (k+1))] 0 false)).get j=g.get j:=λj e=>by rw[Mem.cP,aD e]
    refine⟨by rw[h5 _ (by simp),P _ (by simp) (by simp[okW])];exact c2,by rw[h5 _ (by simp),P _ (by simp) (by simp[okW])];exact c3,by rw[h5 _ (by simp),P _ (by simp) (by simp[okW])];exact c4,⟨s',o,l,by rw[h5 _ (by simp)];exact g5,?_,?_,?_⟩,by rw[h5 _ (by simp)];exact M g (P _ (by simp) (by simp[okW])),by simp,by show 1<=g.next;rw[hn,n3];omega⟩
    .exact hG.frame λj e=>h5 _ (by rintro rfl;simp[okW]at e)
    .rw[uI r2];exact d2.frame λj e=>by rw[h5 _ (by rintro rfl;simp[okW]at e),P _ (by rintro rfl;simp[okW]at e) (by intro h;have w:=h.2;have A:=e.2;omega)]
    .rw[uI r3];exact d3.frame λj e=>by rw[h5 _ (by rintro rfl;simp[okW]at e),P _ (by rintro rfl;simp[okW]at e) (by intro h;have w:=h.2;have A:=e.2;omega)]
  unfold yv;by_cases c9:ex=2
  .obtain⟨s',g,A1,A2,A3,A4,A5,A6⟩:=d1.app (bytes:=16) (id0:=(u,0+1+20+2+2+20+6,57)) oF (by omega) ⟨hnx,rfl⟩ (hr _ hsl) J[k].nm;have g5:g.get (0,3,5)=some (.row [I 0,s,o,l] 0 false):=(by rw[A6 _ (by simp[okW])];exact c5);have st:pM 1 0 1 s' (some (.row [I 0,s,o,l] 0 false))=some (.row [I 0,s',o,l] 0 false):=(by simp[A3,A4]);have lb:aA false 1 (.ptr (0,3,5) 0 1) m3=some s:=(by rw[jF,c5];rfl);have p3:aB 1 (.ptr (0,3,5) 0 0)=some (.ptr (0,3,5) 0 1):=rfl;simp only[fV,c9,bC,aE,aR,p3,lb,D0,fh,A1,rC,g5,st];rw[<-c9];refine fin _ _ s' (λj w A=>by rw[Mem.cP,aD w,A6 _ A]) A5 (by simp) ?_;rw[ZY hk (by rw[r1,c9];rfl)];exact A2.frame λj e=>by rw[Mem.cP,aD (by rintro rfl;simp[okW]at e)]
  .simp only[fV,c9,bK,aE,aS];exact fin m3 _ s (λ_ _ _=>rfl) rfl c5 (by rw[uI (by rw[r1];simp[c9])];exact d1)
end Go.Ix
namespace Go.Ix
open Go.Proofs
variable{ba pa ea sc pr lv cf:AV}{E O:Int}{J:List Pn}
def iF(L:List Scene)(S:List OPr)(O E:Int)(b:Bd)(J:List Pn):Int:=
 if 0<(selN (sureQ L S O E b J) J J.length).length then 2
 else if mayN L S O E b J J.length=true\/cntJ b J J.length=0\/0<(selN (blindQ L S b J) J J.length).length+(selN (openQ L S b J) J J.length).length then 1 else 0
def AX(L:List Scene)(S:List OPr)(O E:Int)(b:Bd)(J:List Pn)(v:AV):Prop:=
 ∃s o l,v=.agg [I (iF L S O E b J),s,o,l]/\Sl tE s (selN (sureQ L S O E b J) J J.length)/\Sl tE o (selN (openQ L S b J) J J.length)/\Sl tE l (selN (blindQ L S b J) J J.length)
def YE:tY=[I 0,nilS,nilS,nilS]:=by kernel_rfl
def yba(d:Nat)(i:Int)(l:[sc,pr,lv,cf].all AV.one=true)(b:[sc,pr,lv,cf].all aP=true)(m:Mem) :
    aI (aG (d+1)) wL [FB E O ba pa ea sc pr lv cf,I i] m=some (.clo oN [.aF [.aF (SC E O ba pa ea),sc,pr,lv,cf],.aF [I i]],m):=by
 have g:(FB E O ba pa ea sc pr lv cf).cells.all AV.one=true:=(by show((AV.aF (SC E O ba pa ea)).one&&[sc,pr,lv,cf].all AV.one)=true;rw[l];rfl);have e:[FB E O ba pa ea sc pr lv cf,I i].all bG=true:=(by show(([AV.aF (SC E O ba pa ea),sc,pr,lv,cf].all aP)&&true)=true;rw[dQ,b];rfl);have h:∃M:Mem,aG (d+1) [] wL [FB E O ba pa ea sc pr lv cf,I i] mem0=some (.clo oN [.ptr (0,0,2) 0 0,.ptr (0,1,3) 0 0],M)/\M.get (0,0,2)=some (.row [.aF (SC E O ba pa ea),sc,pr,lv,cf] 0 false)/\M.get (0,1,3)=some (.row [I i] 0 false):=(by rw[xi8];unfold OP IH;have j:(I i).cells.all AV.one=true:=rfl;simp only[mem0,fN,g,j,bB];exact⟨_,rfl,by rw[Mem.qB (by simp),Mem.iB];rfl,by rw[Mem.iB];rfl⟩);obtain⟨M,p,r,t⟩:=h;refine W6 e p ?_
 have n:Go.Ix.frz M.get 5 (.ptr (0,0,2) 0 0)=some (.aF [.aF (SC E O ba pa ea),sc,pr,lv,cf]):=mV r (pX λa f=>by
  rcases eD.mp f with rfl|f
  .rfl
  .exact tF M.get 3 (dG.mp b a f))
 have o:Go.Ix.frz M.get 5 (.ptr (0,1,3) 0 0)=some (.aF [I i]):=mV t rfl;show([AV.ptr (0,0,2) 0 0,.ptr (0,1,3) 0 0].mapM (Go.Ix.frz M.get 5)).map (AV.clo oN)=_;simp only[eG,fZ,n,o];rfl
def xka(d:Nat){W:List Bd}{L:List Scene}{S:List OPr}(h1:Sl Bd.c ba W)(h2:Sl Pn.c pa J)(Z:Sl Scene.c sc L)(hp:Sl OPr.c pr S)(w:aP lv=true/\aP cf=true)(M:lv.one=true/\cf.one=true)(N:eF lv=true/\eF cf=true)(P:J.length<=1000)(hS:S.length<=1000)(hm:0<=O/\O<=2048)(hw:1<=E/\E<=10000)(hL:L.length<=12/\L.length<=d+8)(hQ:∀j:Nat,(ofPt j S).length<=19)(hf:∀p∈S,p.f.natAbs<=400000){i:Nat}(hi:i<W.length)(hth:0<=W[i].th/\W[i].th<=1000000)(hz:polyE W[i].cs=0)(hp2:∀p∈J,isPl p.at_=true) :
    RetF (AX L S O E W[i] J) (aG (d+16) [] wN [FB E O ba pa ea sc pr lv cf,I (i:Int)] mem0):=by
 rw[yab];unfold ri VY;have ho1:(FB E O ba pa ea sc pr lv cf).cells.all AV.one=true:=(by show((AV.aF (SC E O ba pa ea)).one&&[sc,pr,lv,cf].all AV.one)=true;simp[Z.one,hp.one,M.1,M.2];rfl);have ho2:(I (i:Int)).cells.all AV.one=true:=rfl;simp only[mem0,fN,ho1,ho2,bB];generalize D:Mem.new (Mem.new _ _ _) _ _=m1;have g2:m1.get (0,0,2)=some (.row [.aF (SC E O ba pa ea),sc,pr,lv,cf] 0 false):=(by rw[<-D];simp);have g3:m1.get (0,1,3)=some (.row [I (i:Int)] 0 false):=(by rw[<-D];simp);have n1:m1.next=1:=(by rw[<-D];rfl);simp[YE,nB,IY];generalize b:Mem.set _ _ _=m2;have k2:m2.get (0,0,2)=some (.row [.aF (SC E O ba pa ea),sc,pr,lv,cf] 0 false):=(by rw[<-b];simp[g2]);have k3:m2.get (0,1,3)=some (.row [I (i:Int)] 0 false):=(by rw[<-b];simp[g3]);have k4:m2.get (0,2,4)=some (.row [I 0,nilS,nilS,nilS] 0 false):=(by rw[<-b];simp);have k5:m2.get (0,3,5)=some (.row [I 0,nilS,nilS,nilS] 0 false):=(by rw[<-b];simp);have k6:m2.get (0,4,6)=some (.row [I 0] 0 false):=(by rw[<-b];simp);have k7:m2.get (0,5,7)=some (.row [B false] 0 false):=(by rw[<-b];simp);have n2:m2.next=1:=(by rw[<-b];exact n1);have hcr:[sc,pr,lv,cf].all AV.one=true:=(by simp[Z.one,hp.one,M.1,M.2]);have hcs:[sc,pr,lv,cf].all aP=true:=(by simp[Z.aP,hp.aP,w.1,w.2]);have l5:aA true 5 (.ptr (0,0,2) 0 0) m2=some (FB E O ba pa ea sc pr lv cf):=(by rw[jF,k2];rfl);have l3:aA false 1 (.ptr (0,1,3) 0 0) m2=some (I (i:Int)):=(by rw[jF,k3];rfl);unfold yy;simp only[l5,l3,aE,yba (d+14) (i:Int) hcr hcs];unfold yz;simp only[rD];obtain⟨H,hH⟩:∃H:List AV->Mem->Option Mem,H=λu m=>bif Nat.beq u.length 1&&true then IL (aG (d+15)) [] m.next (.ptr (0,0,2) 0 0) (.ptr (0,1,3) 0 0) (.ptr (0,3,5) 0 0) (.ptr (0,4,6) 0 0) (.ptr (0,5,7) 0 0) (u.getD 0 U) ⟨m.hp,m.next+1⟩ 0 else none:=⟨_,rfl⟩
 rw[<-hH];have hI0:AI ba pa ea sc pr lv cf E O L S W[i] J i 0 ⟨m2.hp,m2.next+1⟩:=(by refine⟨k2,k3,k4,⟨nilS,nilS,nilS,k5,Gk.nil,Gk.nil,Gk.nil⟩,k6,k7,?_⟩;show 1<=m2.next+1;omega);obtain⟨g,r6,I6⟩:=xge (ea:=ea) (E:=E) (O:=O) (n1:=sc) (n2:=pr) (n3:=lv) (n4:=cf) (d+8) (0,8+3,0) rfl H [] m2.next h1 h2 P hi hz hp2 (AI ba pa ea sc pr lv cf E O L S W[i] J i)
  (λk m m' Q R hn=>Q.fr (by omega) (λj e=>R j (by rintro⟨h5,-⟩;omega)) (λj e=>R j (by rintro⟨-,h5⟩;omega)))
  (λk hk m hb Q=>Q.no (by rw[LY hk];exact hb))
  (λk hk m hb Q=>by
   rw[hH]
   exact AI.yes d h1 h2 Z hp w M N P hS hm hw hL hQ hf hi hth [] k hk m hb Q) J 0 NN ⟨m2.hp,m2.next+1⟩ 7 rfl (by rw[cU];omega) (zP _) hI0
 have y:aG (d+15) [((0,8+3,0),H)] oN [.yld (0,8+3,0),.aF [.aF (SC E O ba pa ea),sc,pr,lv,cf],.aF [I (i:Int)]] m2=some (.tup [],g):=by
  rw[xi7];unfold OO IG;have q1:aB 0 (.aF [.aF (SC E O ba pa ea),sc,pr,lv,cf])=some (.aF [.aF (SC E O ba pa ea),sc,pr,lv,cf]):=rfl;have q2:∀m,aA false 1 (.aF [.aF (SC E O ba pa ea),sc,pr,lv,cf]) m=some (.aF (SC E O ba pa ea)):=λ_=>rfl
  have q3:cA (.aF (SC E O ba pa ea))=some (.aF (SC E O ba pa ea)):=rfl;have q4:aB 3 (.aF (SC E O ba pa ea))=some (.aF [pa,ea]):=rfl;have q5:∀m,aA false 1 (.aF [pa,ea]) m=some pa:=λ_=>rfl
  simp only[q1,q2,q3,q4,q5,aE,h2.len pL];exact r6
 rw[y];obtain⟨-,-,j4,⟨s,o,l,j5,e1,e2,e3⟩,j6,j7,-⟩:=I6;have u1:∀{a:AV} {t:Nat} {x:List ByteArray},Gk 1 tE (okW t) g a x->a.one=true:=λh=>h.one.2
 have e1l:=e1.len vS;have e2l:=e2.len vS;have e3l:=e3.len vS;have fin:∀(n:Int) (F:Mem) (Y:Nat),n=iF L S O E W[i] J->F.get (0,3,5)=some (.row [I n,s,o,l] 0 false)->(∀j:Id,j≠(0,3,5)->F.get j=g.get j)->RetF (AX L S O E W[i] J) (J6 (aG (d+15)) [] 0 (.ptr (0,2,4) 0 0) (.ptr (0,3,5) 0 0) F Y):=λn F Y hn h5 X=>by
  have h4:F.get (0,2,4)=some (.row [I 0,nilS,nilS,nilS] 0 false):=(by rw[X _ (by simp)];exact j4);unfold J6;simp[h5,h4,u1 e1,u1 e2,u1 e3,gT];generalize hm8:Mem.set F _ _=m8;have A:∀(t:Nat) (j:Id),okW t j->m8.get j=g.get j:=λt j e=>by rw[<-hm8,Mem.cP,aD (by rintro rfl;simp[okW]at e),X _ (by rintro rfl;simp[okW]at e)]
  obtain⟨s',z1,y1⟩:=(e1.frame (m':=m8) λj e=>A _ j e).frz (k:=3) oF BX;obtain⟨o',z2,y2⟩:=(e2.frame (m':=m8) λj e=>A _ j e).frz (k:=3) oF BX;obtain⟨l',z3,y3⟩:=(e3.frame (m':=m8) λj e=>A _ j e).frz (k:=3) oF BX;exact RetF.mk (xhy (k:=4) rfl y1 y2 y3) ⟨s',o',l',by rw[hn],z1,z2,z3⟩
 have N:=xit W[i] J J.length;have hb1:=w6 (blindQ L S W[i] J) J J.length;have hb2:=w6 (openQ L S W[i] J) J J.length;have iR:∀n:Int,pM 1 0 0 (I n) (some (.row [I 0,s,o,l] 0 false))=some (.row [I n,s,o,l] 0 false):=λn=>by simp
 unfold zd;have l51:aA false 1 (.ptr (0,3,5) 0 1) g=some s:=(by rw[jF,j5];rfl);have l52:aA false 1 (.ptr (0,3,5) 0 2) g=some o:=(by rw[jF,j5];rfl);have l53:aA false 1 (.ptr (0,3,5) 0 3) g=some l:=(by rw[jF,j5];rfl);have C:aA false 1 (.ptr (0,4,6) 0 0) g=some (I (cntJ W[i] J J.length:Nat)):=(by rw[jF,j6];rfl);have r:aA false 1 (.ptr (0,5,7) 0 0) g=some (B (mayN L S O E W[i] J J.length)):=(by rw[jF,j7];rfl);have K:iF L S O E W[i] J=if 0<(selN (sureQ L S O E W[i] J) J J.length).length then 2 else if mayN L S O E W[i] J J.length=true\/cntJ W[i] J J.length=0\/0<(selN (blindQ L S W[i] J) J J.length).length+(selN (openQ L S W[i] J) J J.length).length then 1 else 0:=rfl
 simp only[aE,cM,bO,l51,e1l,gZ];by_cases c1:0<(selN (sureQ L S O E W[i] J) J J.length).length
 .have c1':(0:Int)<((selN (sureQ L S O E W[i] J) J J.length).length:Int):=(by omega);simp only[c1',bC,aR,rC,j5,iR,aE];exact fin 2 _ _ (by rw[K,aH c1]) (by simp) λj e=>by rw[Mem.cP,aD e]
 .have c1':¬(0:Int)<((selN (sureQ L S O E W[i] J) J J.length).length:Int):=(by omega);rw[aD c1]at K;generalize mayN L S O E W[i] J J.length=bb at *
  have hw1:bM (((selN (blindQ L S W[i] J) J J.length).length:Int)+((selN (openQ L S W[i] J) J J.length).length:Int))=((selN (blindQ L S W[i] J) J J.length).length:Int)+((selN (openQ L S W[i] J) J J.length).length:Int):=bJ;have yes:∀(Y:Nat),iF L S O E W[i] J=1->RetF (AX L S O E W[i] J) ((pM 1 0 0 (I 1) (g.get (0,3,5))).bind λo'=>J6 (aG (d+15)) [] 0 (.ptr (0,2,4) 0 0) (.ptr (0,3,5) 0 0) (g.set (0,3,5) o') Y):=λY h=>by rw[j5,iR,aE];exact fin 1 _ _ h.symm (by simp) λj e=>by rw[Mem.cP,aD e]
  cases bb with
  |true=>simp only[c1',bK,aS,r,aE,dO,dR,cC,cS,cN,bB,aR,rC];exact yes _ (by rw[K];simp)
  |false=>
   by_cases c2:cntJ W[i] J J.length=0
   .have c2':((cntJ W[i] J J.length:Nat):Int)=0:=(by omega);simp only[c1',bK,aS,r,C,aE,dO,dR,bW,bB,fV,c2',bC,cN,cS,cC,aR,rC];exact yes _ (by rw[K];simp[c2])
   .have c2':¬((cntJ W[i] J J.length:Nat):Int)=0:=(by omega);by_cases c3:0<(selN (blindQ L S W[i] J) J J.length).length+(selN (openQ L S W[i] J) J J.length).length
    .have c3':(0:Int)<((selN (blindQ L S W[i] J) J J.length).length:Int)+((selN (openQ L S W[i] J) J J.length).length:Int):=(by omega);simp only[c1',bK,aS,r,C,l52,l53,e2l,e3l,aE,dO,dR,bW,bB,fV,c2',cN,cS,dJ,hw1,gZ,c3',bC,aR,rC];exact yes _ (by rw[K];simp[c3])
    .have c3':¬(0:Int)<((selN (blindQ L S W[i] J) J J.length).length:Int)+((selN (openQ L S W[i] J) J J.length).length:Int):=(by omega);simp only[c1',bK,aS,r,C,l52,l53,e2l,e3l,aE,dO,dR,bW,bB,fV,c2',cN,cS,dJ,hw1,gZ,c3',aS];exact fin 0 _ _ (by rw[K];simp[c2,c3]) j5 λ_ _=>rfl
def xzm(t:Nat):cO prog .eql YN (.tmp t) (.const .nilIface) (AV.sc .nilIface) (AV.sc .nilIface)=some (B true):=by kernel_rfl
def x49(t:Nat):cO prog .eql YN (.tmp t) (.const .nilIface) (.un xB) (AV.sc .nilIface)=some (B false):=by refine xrw (A:=xB) (B:=λv=>v=.nilIface) (v0:=.bool false) ⟨⟨.iface 0 .nilIface,0,.nilIface,rfl⟩,λv h=>h⟩ (Is.sc rfl) rfl ?_;rintro u v ⟨t,z,rfl⟩ rfl;exact OkR.run (a:=Value.bool false) (R:=λv=>v=.bool false) rfl (by kernel_rfl)
def xbd(d:Nat){w:List UInt8}(u:w.length<=100000)(m:Mem):∃n,aI (aG (d+4)) yP [Tx w] m=some (.tup [I n,B (mS w 9).isSome],m)/\∀k,mS w 9=some k->n=k:=by
 suffices i:RetF (λv=>∃n,v=.tup [I n,B (mS w 9).isSome]/\∀k,mS w 9=some k->n=k) (aG (d+4) [] yP [Tx w] mem0) by obtain⟨v,⟨n,rfl,h⟩,t⟩:=qF (by rfl) i m;exact⟨n,t,h⟩
 rw[<-xpn w (by omega:9<=18),x9h];unfold py UK;simp only[mem0];generalize (⟨[],0+1⟩:Mem)=m1;rcases xo7 (d+2) (l:=w) (by omega) m1 with ⟨n,f,p⟩|⟨f,n,p⟩
 .have b:=xjz f;have j:=λm=>xoo (d+2) b.1 b.2 m
  have e:L1 w 9=if mX n=w/\(oE w).length<=9 then some n else none:=by unfold L1;rw[f]
  simp only[p,aE,mB,kZ,lA,xzm,gI,dO,hJ,gD,bB,j,pI,cN];by_cases g:mX n=w
  .simp only[g,bC,bB,aE,xog,nD,KP];by_cases r:(oE w).length<=9
   .have o:((oE w).length:Int)<=9:=(by omega);rw[e,aH ⟨g,r⟩];simp only[o,bC];exact RetF.tup rfl ⟨n,rfl,λk a=>qJ a⟩
   .have o:¬((oE w).length:Int)<=9:=(by omega);rw[e,aD (λh=>r h.2)];simp only[o,bK];exact RetF.tup rfl ⟨n,rfl,λk a=>by cases a⟩
  .rw[e,aD (λh=>g h.1)];simp only[g,bK,cS,aE];exact RetF.tup rfl ⟨n,rfl,λk a=>by cases a⟩
 .have e:L1 w 9=none:=by
   unfold L1;split
   .rename_i q h;exact absurd h (f q)
   .rfl
  rw[e];simp only[p,aE,mB,kZ,lA,x49,gI,dO,hJ,gD,cS,cN];exact RetF.tup rfl ⟨n,rfl,λk a=>by cases a⟩
structure IntoN (m:Mem) (pid rid:Id) (pre:List AV) (vs:List Int):Prop where
 p:m.get pid=some (.row ((List.range vs.length).map λj=>AV.ptr rid 0 (pre.length+j)) 0 false)
 r:m.get rid=some (.row (pre++vs.map λv=>I v) 0 false)
 ne:pid≠rid
def xxl(a:List AV):∀(b:List Int) (k:Nat) (d:k<b.length) (n:Int),cR (a++b.map λv=>I v) (a.length+k) [I n]=a++(b.set k n).map λv=>I v:=by intro b k d n;unfold cR;rw[List.take_append,dU (by omega),show a.length+k-a.length=k by omega,H1,lU (by simp;omega),iX,sB];congr 1;rw[show a.length+k+[I n].length-a.length=k+1 by simp;omega,<-jj,<-List.map_drop,jf,aH d];simp
variable{pid rid:Id}{pre:List AV}
def x2a(d:Nat)(Z:FHs)(u:Nat){x:AV}{b:List (List UInt8)}(hx:Sl dA x b)(hw:∀w∈b,w.length<=100000):∀(r k:Nat) (a:List Int) (j:Nat) (m:Mem) (Y:Nat),k+r=a.length->a.length<=b.length->a.length<=1000->r<j->IntoN m pid rid pre a ->
    ∃y f,AC (aG (d+4)) Z u j x (.sref pid 0 0 a.length 1 true) (I a.length) (I k) m Y=some (B (iO 9 ((b.take a.length).drop k)).isSome,y)/\f.length=a.length/\y.get rid=some (.row (pre++f.map λv=>I v) 0 false)/\(∀l,iO 9 ((b.take a.length).drop k)=some l->f=a.take k++l)/\y.next=m.next/\∀j,j≠rid->y.get j=m.get j:=by
 intro r;induction r with
 |zero=>intro k a j m Y E e W C h;obtain⟨j,rfl⟩:∃i,j=i+1:=⟨j-1,by omega⟩;have A:¬((k:Int)<(a.length:Int)):=(by omega);have he:(b.take a.length).drop k=[]:=lU (by rw[xH];omega);simp only[AC];unfold UT yc;simp only[bQ,A,bK,aE,aS];rw[he];exact⟨m,a,rfl,rfl,h.r,λl e=>by cases e;rw[jX,dU (by omega)],rfl,λ_ _=>rfl⟩
 |succ r ih=>
  intro k a j m Y E e W C h;obtain⟨j,rfl⟩:∃i,j=i+1:=⟨j-1,by omega⟩;have A:k<a.length:=(by omega);have hk':(k:Int)<(a.length:Int):=(by omega);have o:k<b.length:=(by omega);have F:k<(b.take a.length).length:=(by rw[xH];omega);have X:(b.take a.length).drop k=b[k]::(b.take a.length).drop (k+1):=(by rw[HI F,NS]);have t:=hx.ix nG o;have H:=hw _ (eX o);rw[HI o,dN]at t;simp only[dA,List.singleton_append]at t;have hp:aT 1 (.sref pid 0 0 a.length 1 true) (I k)=some (.ptr pid 0 k):=(by simp only[aT,dI];rw[aH ⟨by omega,by omega,trivial⟩];simp);have J:aA false 1 (.ptr pid 0 k) m=some (.ptr rid 0 (pre.length+k)):=(by rw[aM h.p,HI (by simpa using A)];simp);have w1:=gH k (by omega);obtain⟨n,N,O⟩:=xbd d H m;simp only[AC];unfold UT;simp only[bQ,hk',bC,aE,aR,hp,J,t,w8,cE,N,mB,kZ,lA];cases P:mS b[k] 9 with
  |none=>have D:iO 9 ((b.take a.length).drop k)=none:=(by rw[X,iO,P]);simp only[xE,fA,bW,aE,aR];rw[D];exact⟨m,a,rfl,rfl,h.r,λl e=>(by cases e),rfl,λ_ _=>rfl⟩
  |some q=>
   obtain rfl:n=q:=O q P;have L:∀{R:Type} (K:Mem->Option R),aZ 1 (.ptr rid 0 (pre.length+k)) (I n) m K=K (m.set rid (.row (pre++(a.set k n).map λv=>I v) 0 false)):=λK=>by rw[mA (z:=1) (x:=I n) h.r rfl (by simp;omega) rfl];show K (m.set rid (.row (cR (pre++a.map λv=>I v) (pre.length+k) [I n]) 0 false))=_;rw[xxl pre a k A n]
   simp only[Option.isSome_some,fA,cC,aE,aS,cA,L,dJ,w1];generalize g:m.set rid (.row (pre++(a.set k n).map λv=>I v) 0 false)=m2;have M:IntoN m2 pid rid pre (a.set k n):=⟨by rw[<-g,Mem.cP,aD h.ne,mN];exact h.p,by rw[<-g,Mem.cP,aH rfl],h.ne⟩;obtain⟨y,f,e1,e2,e3,e4,e5,e6⟩:=ih (k+1) (a.set k n) j m2 (Y+24) (by rw[mN];omega) (by rw[mN];exact e) (by rw[mN];exact W) (by omega) M;rw[mN]at e1 e2 e4;have D:iO 9 ((b.take a.length).drop k)=match iO 9 ((b.take a.length).drop (k+1))with|some l=>some (n::l)|none=>none:=by rw[X,iO,P];cases iO 9 ((b.take a.length).drop (k+1))<;>rfl
   refine⟨y,f,?_,e2,e3,λl e=>?_,by rw[e5,<-g];rfl,λj C=>by rw[e6 j C,<-g,Mem.cP,aD C]⟩
   .rw[e1,D];cases iO 9 ((b.take a.length).drop (k+1))<;>rfl
   .rw[D]at e;cases Q:iO 9 ((b.take a.length).drop (k+1))with
    |none=>rw[Q]at e;cases e
    |some l2=>rw[Q]at e;cases e;rw[e4 l2 Q,List.take_set,jV A,xkp _ _ (by simp;omega)];simp;rw[show k-min k a.length=0 by omega];simp
def xev:Id->Prop:=λid=>id.2.2=47
def xeu:Id->Prop:=λid=>id.2.2=69
def SR(m:Mem)(a:Id)(S:List Scene)(P:List Pq):Prop:=∃v w,m.get a=some (.row [v,w] 0 false)/\Gk 3 Scene.c xev m v S/\Gk 2 Pq.c xeu m w P
def xak:l4=[AV.sc (.pointer none)]:=by kernel_rfl
def xfi{R:Type}(a:Id)(b d:Nat)(id:Id)(m:Mem)(K:AV->Mem->Option R):dC l4 [(0,1,.ptr a 0 b),(1,1,.ptr a 0 d)] 2 1 id m K=K (.sref id 0 0 2 1 true) (m.new id (.row [.ptr a 0 b,.ptr a 0 d] 0 false)):=by rw[xak];rfl
def Sl.drop_strs{x:AV}{l:List (List UInt8)}{n:Nat}(e:x=.aQ (l.flatMap dA) l.length false)(h:n<=l.length):∃y,eP prog gR x (some (I n)) none=some y/\Sl dA y (l.drop n):=by
 subst e;have f:∃i,prog.info? cF=some i/\i.size=1:=(by have d:(prog.info? cF).map (λi=>i.size)=some 1:=(by kernel_rfl);rw[cH]at d;exact d);obtain⟨j,a,b⟩:=f;have g:=KD l;refine⟨.aQ ((l.flatMap dA).drop n) (l.length-n) false,?_,.inr ⟨false,?_⟩⟩
 .simp only[eP,dM,xb1,a,b,dI,Option.getD_some,Option.getD_none];rw[aH ⟨by omega,by omega,by omega,by omega⟩];congr 2
  .rw[gA,dU (by rw[NR];omega),oB]
  .omega
 .rw[NR];congr 1;have:=zG nG l n;rwa[oB]at this
def SR.frame{m m':Mem}{d:Id}{S:List Scene}{P:List Pq}(h:SR m d S P)(g:m'.get d=m.get d)(f:∀j,xev j\/xeu j->m'.get j=m.get j):SR m' d S P:=by obtain⟨v,w,a,b,c⟩:=h;exact⟨v,w,by rw[g];exact a,b.frame λj e=>f j (.inl e),c.frame λj e=>f j (.inr e)⟩
theorem Scene.stl(s:Scene):s.c.all aP=true:=rfl
end Go.Ix
namespace Go.Ix
open Go.Proofs
variable{pid rid:Id}{pre:List AV}
def JV(d:Nat)(Z:FHs){x:AV}{f:List (List UInt8)}(t:Sl dA x f)(u:∀w∈f,w.length<=100000){m:Mem}{a:List Int}(y:a.length<=f.length)(A:a.length<=1000)(g:IntoN m pid rid pre a) :
    ∃e b,aG (d+5) Z rP [x,.sref pid 0 0 a.length 1 true] m=some (B (iO 9 (f.take a.length)).isSome,e)/\b.length=a.length/\e.get rid=some (.row (pre++b.map λv=>I v) 0 false)/\(∀l,iO 9 (f.take a.length)=some l->b=l)/\e.next=m.next+1/\∀j,j≠rid->e.get j=m.get j:=by
 rw[x9n];unfold qe US yb;simp only[show aN prog xa3 (.sref pid 0 0 a.length 1 true)=some (I a.length)from rfl,aE];have i:IntoN ⟨m.hp,m.next+1⟩ pid rid pre a:=⟨g.p,g.r,g.ne⟩;obtain⟨e,b,n,C,D,o,E,F⟩:=x2a d Z m.next t u a.length 0 a NN ⟨m.hp,m.next+1⟩ (0+1+3) (by omega) y A (by rw[cU];omega) i;rw[bA]at n o;exact⟨e,b,n,C,D,λl h=>by rw[o l h];rfl,E,F⟩
def cv:List UInt8:=[115,99,101,110,101]
def cw:List UInt8:=[112,97,105,114]
def cz:List UInt8:=[99,111,114,114,101,99,116]
def cx:List UInt8:=[108,101,118,101,108]
def cy:List UInt8:=[99,111,110,102,105,114,109]
def cu:List UInt8:=[99,108,111,115,101]
def kP(k:List UInt8):Option (Int×Nat×FuncId):=
 if k=cv then some (2,3,S6)else if k=cw then some (2,4,S0)else if k=cz then some (2,2,R9)else
 if k=cx then some (1,4,R8)else if k=cy then some (3,1,R7)else if k=cu then some (3,1,R6)else none
def qC(x:Int×Nat×FuncId):AV:=.agg [I x.1,I (x.2.1:Int),.clo x.2.2 []]
def frZ:AV:=.agg vO
def sU(k:List UInt8):Value:=.string ⟨k.toArray⟩
def xrb(k w:List UInt8):iD (sU k) (sU w)=decide (k=w):=by show(k.toArray == w.toArray)=_;rw[xO,beq_iff_eq,lF];simp
def E6:List (Value×AV):=[(sU cv,qC (2,3,S6)),(sU cw,qC (2,4,S0)),(sU cz,qC (2,2,R9)),(sU cx,qC (1,4,R8)),(sU cy,qC (3,1,R7)),(sU cu,qC (3,1,R6))]
def x4w(k:List UInt8):findKey (sU k) E6=(kP k).map qC:=by unfold E6 kP;simp only[findKey,xrb,lF,apply_ite (Option.map qC),Option.map_some,Option.map_none]
def x4n:frZ.cells.length=3:=by kernel_rfl
def x4l:frZ.cells.all AV.one=true:=by kernel_rfl
def eo:vO.length=3:=by kernel_rfl
def eu(d:AV)(e:Mem):Option (AV×Mem):=
 (dB d 0).bind λf=>
 (dB d 1).bind λg=>
 dH vO (0,21,4) e λj h=>
 aZ 3 j f h λa=>
 (aA true 3 j a).bind λi=>
 aZ 3 (.ptr (0,0,2) 0 0) i a λb=>
 (gT true 3 (.ptr (0,0,2) 0 0) b).bind λr0=>
 some (AV.tup [r0,g],b)
def x4k(d:Nat)(k:List UInt8):aG (d+1) [] wI [Tx k] mem0=(some (AV.tup [(findKey (sU k) E6).getD frZ,B (findKey (sU k) E6).isSome])).bind λt=>eu t ⟨[(0,[(2,7,.map E6),(0,2,.row vO 0 false)])],1⟩:=by kernel_rfl
def x4m:(eu (AV.tup [frZ,B false]) ⟨[(0,[(2,7,.map E6),(0,2,.row vO 0 false)])],1⟩).map (λp=>p.1)=some (.tup [frZ,B false]):=by kernel_rfl
def x4j(r:Int)(n:Nat)(f:FuncId):(eu (AV.tup [qC (r,n,f),B true]) ⟨[(0,[(2,7,.map E6),(0,2,.row vO 0 false)])],1⟩).map (λp=>p.1)=some (.tup [qC (r,n,f),B true]):=by kernel_rfl
theorem x4o(a:Id->Option Ob)(r:Int)(n:Nat)(f:FuncId):Go.Ix.frz a bL (.tup [qC (r,n,f),B true])=some (.tup [qC (r,n,f),B true]):=by rfl
def x4p(a:Id->Option Ob):Go.Ix.frz a bL (.tup [frZ,B false])=some (.tup [frZ,B false]):=by kernel_rfl
def qD(k:List UInt8):AV:=((kP k).map qC).getD frZ
def V5(k:List UInt8):(qD k).cells.length=3/\(qD k).cells.all AV.one=true:=by
 unfold qD;cases kP k with
 |none=>exact⟨x4n,x4l⟩
 |some x=>exact⟨rfl,rfl⟩
def YV(d:Nat)(k:List UInt8)(m:Mem):aI (aG (d+1)) wI [Tx k] m=some (.tup [qD k,B (kP k).isSome],m):=by
 have b:(aG (d+1) [] wI [Tx k] mem0).map (λp=>p.1)=some (.tup [qD k,B (kP k).isSome]):=by
  rw[x4k,x4w];unfold qD;simp only[aE];cases kP k with
  |none=>exact x4m
  |some x=>obtain⟨r,n,f⟩:=x;exact x4j r n f
 obtain⟨p,g,h⟩:=cH.mp b;have e:∀a,Go.Ix.frz a bL (.tup [qD k,B (kP k).isSome])=some (.tup [qD k,B (kP k).isSome]):=by
  intro a;unfold qD;cases kP k with
  |none=>exact x4p a
  |some x=>obtain⟨r,n,f⟩:=x;exact x4o a r n f
 unfold aI;rw[zE (l:=[Tx k]) _ rfl];simp only[g,h,e,Option.map_some,CT (l:=[Tx k]) _ rfl];rfl
def mZ{z:Nat}{cs:List AV}{x:AV}(b:x.cells.all AV.one=true)(d:x.cells.length=z)(f:cs.length=z)(id:Id)(m:Mem):∃M:Mem,M.next=m.next/\M.get id=some (.row x.cells 0 false)/\(∀j,j≠id->M.get j=m.get j) /\
    ∀{R:Type} (K:AV->Mem->Option R),(dH cs id m λt e=>aZ z t x e (K t))=K (.ptr id 0 0) M:=by
 refine⟨(m.new id (.row cs 0 false)).set id (.row x.cells 0 false),rfl,Mem.tB _ _ _,λj a=>?_,λK=>?_⟩
 .rw[Mem.cP,aD a,Mem.dP,aD a]
 .rw[kA,mA (by rw[Mem.dP,aH rfl]) d (by omega) b];have:cR cs 0 x.cells=x.cells:=(by unfold cR;rw[jB,iX,lU (by omega),jX]);rw[this]
def wQ:List UInt8:=[102,105,120]
def tM(t:List UInt8):Int:=
 if 200<t.length then 8 else if 10∈t\/(cG t).2.2=false then 7 else if kP (cG t).1=none/\(cG t).1≠wQ then 15 else 0
def xbk(d:Nat){t:List UInt8}(f:t.length<=100000)(m:Mem):aI (aG (d+6)) yQ [Tx t] m=some (I (tM t),m):=by
 refine Ans.gG (m:=m) ?_ rfl rfl;unfold Ans;rw[x92];unfold qu VM;rw[show(AV.sc (.string ⟨#[32]⟩))=Tx [32]from rfl,show(AV.sc (.string ⟨#[10]⟩))=Tx [10]from rfl,show(AV.sc (.string ⟨#[102,105,120]⟩))=Tx wQ from rfl];have g:∀m,aI (aG (d+5)) wI [Tx (cG t).1] m=_:=λm=>YV (d+4) (cG t).1 m
 simp only[mem0,JW d t f,aE,mB,kZ,lA,g];obtain⟨M,-,-,-,i⟩:=mZ (V5 (cG t).1).2 (V5 (cG t).1).1 eo (0,0+15,6) ⟨[],0+1⟩;rw[i];unfold tM;simp only[nD,aE,gZ];by_cases b:200<t.length
 .have c1':((t.length:Int) > 200):=(by omega);simp only[b,c1',bC,aR,bV];exact⟨_,rfl⟩
 have c1':¬((t.length:Int) > 200):=(by omega);have h:∀m,aI (aG (d+5)) O0 [Tx t,Tx [10]] m=some (B (decide ((10:UInt8)∈t)),m):=xo2 d t 10;simp only[b,c1',bK,aS,cJ,h,aE,gI,dO,fA];by_cases a:(10:UInt8)∈t
 .simp only[a,bC,gD,dR,bB,cS,cC,aE,cN,aR,true_or,bV];exact⟨_,rfl⟩
 cases j:(cG t).2.2 with
 |false=>simp only[a,bK,gD,dR,bB,cS,bW,aE,cN,aR,fA,or_true,bV];exact⟨_,rfl⟩
 |true=>
  simp only[a,bK,gD,dR,bB,cS,cC,bW,aE,cN,aS,fA,or_self,Bool.true_eq_false,cJ];cases l:kP (cG t).1 with
  |some x=>simp only[Option.isSome_some,cC,aE,cS,aS,reduceCtorEq,false_and,cJ];exact⟨_,rfl⟩
  |none=>
   simp only[xE,bW,aE,bB,true_and];by_cases e:(cG t).1=wQ
   .simp only[e,xa8,aE,bC,cC,aS,ne_eq,not_true_eq_false,cJ];exact⟨_,rfl⟩
   .simp only[e,xa8,aE,bK,bW,aR,ne_eq,not_false_eq_true,bV];exact⟨_,rfl⟩
inductive Act10 where
 |scene (n:List UInt8) (d b:Int)
 |pair (p a b:List UInt8) (f:Int)
 |corr (s:List UInt8) (f:Int)
 |level (p s:List UInt8) (v e:Int)
 |conf (b:List UInt8)
 |clos (b:List UInt8)
def tv(l:List UInt8):Value:=.string ⟨l.toArray⟩
def Act10.v:Act10->AV
 | .scene n d b=>.sc (.iface JF (.agg [tv n,.int .i64 d,.int .i64 b].toArray))
 | .pair p a b f=>.sc (.iface JG (.agg [tv p,tv a,tv b,.int .i64 f].toArray))
 | .corr s f=>.sc (.iface JI (.agg [tv s,.int .i64 f].toArray))
 | .level p s v e=>.sc (.iface JH (.agg [tv p,tv s,.int .i64 v,.int .i64 e].toArray))
 | .conf b=>.sc (.iface YK (tv b))
 | .clos b=>.sc (.iface YL (tv b))
def x0n(n:List UInt8)(d b:Int):oH prog JF (.agg [Tx n,I d,I b])=some (Act10.scene n d b).v:=by kernel_rfl
def x0o(p a b:List UInt8)(f:Int):oH prog JG (.agg [Tx p,Tx a,Tx b,I f])=some (Act10.pair p a b f).v:=by kernel_rfl
def x0r(s:List UInt8)(f:Int):oH prog JI (.agg [Tx s,I f])=some (Act10.corr s f).v:=by kernel_rfl
def x0p(p s:List UInt8)(v e:Int):oH prog JH (.agg [Tx p,Tx s,I v,I e])=some (Act10.level p s v e).v:=by kernel_rfl
def x0q(b:List UInt8):oH prog YK (Tx b)=some (Act10.conf b).v:=by kernel_rfl
def x0m(b:List UInt8):oH prog YL (Tx b)=some (Act10.clos b).v:=by kernel_rfl
def yJ(mk:Int->Int->Act10):Option (List Int)->Option Act10
 |some [d,e]=>some (mk d e)
 |_=>none
def yK(mk:Int->Act10):Option (List Int)->Option Act10
 |some [d]=>some (mk d)
 |_=>none
def xey{N:Option (List Int)}{p q:Int}(mk:Int->Int->Act10)(h:∀l,N=some l->[p,q]=l):(yJ mk N).isSome=N.isSome/\∀x,yJ mk N=some x->(mk p q).v=x.v:=by
 cases N with
 |none=>exact⟨rfl,λx h=>by cases h⟩
 |some l=>rw[<-h l rfl];exact⟨rfl,λx h=>by cases h;rfl⟩
def xe0{N:Option (List Int)}{p:Int}(mk:Int->Act10)(h:∀l,N=some l->[p]=l):(yK mk N).isSome=N.isSome/\∀x,yK mk N=some x->(mk p).v=x.v:=by
 cases N with
 |none=>exact⟨rfl,λx h=>by cases h⟩
 |some l=>rw[<-h l rfl];exact⟨rfl,λx h=>by cases h;rfl⟩
def KW:List (List UInt8)->Option Act10
 |[a,b,c]=>yJ (.scene a) (iO 9 [b,c])
 |_=>none
def KX:List (List UInt8)->Option Act10
 |[a,b,c,d]=>yK (.pair a b c) (iO 9 [d])
 |_=>none
def KZ:List (List UInt8)->Option Act10
 |[a,b]=>yK (.corr a) (iO 9 [b])
 |_=>none
def KY:List (List UInt8)->Option Act10
 |[a,b,c,d]=>yJ (.level a b) (iO 9 [c,d])
 |_=>none
def aw:List (List UInt8)->Option Act10
 |[a]=>some (.conf a)
 |_=>none
def av:List (List UInt8)->Option Act10
 |[a]=>some (.clos a)
 |_=>none
def Ext10(m a:Mem):Prop:=m.next<=a.next/\∀j:Id,j.1<m.next->a.get j=m.get j
def Ext10.refl(m:Mem):Ext10 m m:=⟨bT _,λ_ _=>rfl⟩
def Ext10.trans{a b c:Mem}(h:Ext10 a b)(k:Ext10 b c):Ext10 a c:=⟨iW h.1 k.1,λj d=>by rw[k.2 j (fU d h.1),h.2 j d]⟩
def G5(d:Nat)(f:FuncId)(a:List (List UInt8))(r:Option Act10):Prop:=
 ∀(Z:FHs) (m:Mem),∃b v,aG d Z f [.aQ (a.flatMap dA) a.length false] m=some (.tup [v,B r.isSome],b)/\(∀x,r=some x->v=x.v)/\Ext10 m b
def xmk(a:List UInt8):cW qN [(0,1,Tx a)]=some (.agg [Tx a,I 0,I 0]):=by kernel_rfl
def xmj(a:List UInt8):cW BB [(0,3,.agg [Tx a,I 0,I 0])]=some (.agg [Tx a,I 0,I 0]):=by kernel_rfl
def xl9:BB.length=3:=by kernel_rfl
def xfj{R:Type}(a:Id)(b:Nat)(id:Id)(m:Mem)(K:AV->Mem->Option R):dC l4 [(0,1,.ptr a 0 b)] 1 1 id m K=K (.sref id 0 0 1 1 true) (m.new id (.row [.ptr a 0 b] 0 false)):=by rw[xak];rfl
def xsv(d:Nat){a b c:List UInt8}(Y:b.length<=100000)(hc:c.length<=100000):G5 (d+6) S6 [a,b,c] (KW [a,b,c]):=by
 intro Z m;rw[x9w];unfold qo VE;have E:aT 1 (.aQ ([a,b,c].flatMap dA) [a,b,c].length false) (I 0)=some (.aF [Tx a,Tx b,Tx c]):=rfl;have F:∀m,aA false 1 (.aF [Tx a,Tx b,Tx c]) m=some (Tx a):=λ_=>rfl
 obtain⟨y,C,r⟩:=Sl.drop_strs (l:=[a,b,c]) rfl (n:=1) (by simp);rw[show((1:Nat):Int)=1 from rfl]at C;obtain⟨M,N,O,P,Q⟩:=mZ (z:=3) (cs:=BB) (x:=.agg [Tx a,I 0,I 0]) rfl rfl xl9 (m.next,0+7,4) ⟨m.hp,m.next+1⟩;simp only[E,F,aE,xmk,xmj,Q,C,cM,xfi];generalize e:M.new (m.next,0+15,17) _=M2;have H:IntoN M2 (m.next,0+15,17) (m.next,0+7,4) [Tx a] [0,0]:=⟨by rw[<-e,Mem.dP,aH rfl];rfl,by rw[<-e,Mem.dP,aD (λh=>by simp[Prod.ext_iff]at h),O];rfl,λh=>by simp[Prod.ext_iff]at h⟩;obtain⟨o,i,J,R,K,L,W,X⟩:=JV d Z r (λw t=>by simp at t;rcases t with rfl|rfl<;>assumption) (by simp) (by simp) H;obtain⟨p,q,rfl⟩:∃p q,i=[p,q]:=by
  match i,R with
  |[p,q],_=>exact⟨p,q,rfl⟩
 have e1':aG (d+5) Z rP [y,.sref (m.next,0+15,17) 0 0 2 1 true] M2=some (B (iO 9 [b,c]).isSome,o):=J;have e3':o.get (m.next,0+7,4)=some (.row [Tx a,I p,I q] 0 false):=K;have e4':∀l,iO 9 [b,c]=some l->[p,q]=l:=L;have ld:aA true 3 (.ptr (m.next,0+7,4) 0 0) o=some (.agg [Tx a,I p,I q]):=(by rw[aM e3'];rfl);simp only[e1',aE,ld,x0n];have f:=xey (.scene a) e4';have A:KW [a,b,c]=yJ (.scene a) (iO 9 [b,c]):=rfl;refine⟨o,(Act10.scene a p q).v,by rw[A,f.1],λx D=>f.2 x (by rw[<-A];exact D),?_⟩
 .refine⟨by rw[W,<-e];show _<=M.next+1;rw[N];simp;omega,λj u=>?_⟩;have g:∀{a b:Nat},j≠(m.next,a,b):=λh=>by rw[h]at u;simp at u
  rw[X j g,<-e,Mem.dP,aD g,P j g];rfl
def xml(a b c:List UInt8):cW BC [(0,1,Tx a),(1,1,Tx b),(2,1,Tx c)]=some (.agg [Tx a,Tx b,Tx c,I 0]):=by kernel_rfl
def xmb:BC.length=4:=by kernel_rfl
def xsu(d:Nat){a b c e:List UInt8}(F:e.length<=100000):G5 (d+6) S0 [a,b,c,e] (KX [a,b,c,e]):=by
 intro Z m;rw[x9v];unfold qn VD;have J:aT 1 (.aQ ([a,b,c,e].flatMap dA) [a,b,c,e].length false) (I 0)=some (.aF [Tx a,Tx b,Tx c,Tx e]):=rfl;have K:aT 1 (.aQ ([a,b,c,e].flatMap dA) [a,b,c,e].length false) (I 1)=some (.aF [Tx b,Tx c,Tx e]):=rfl;have L:aT 1 (.aQ ([a,b,c,e].flatMap dA) [a,b,c,e].length false) (I 2)=some (.aF [Tx c,Tx e]):=rfl;have N:∀x r m,aA false 1 (.aF (x::r)) m=some x:=λ_ _ _=>rfl
 obtain⟨y,E,u⟩:=Sl.drop_strs (l:=[a,b,c,e]) rfl (n:=3) (by simp);rw[show((3:Nat):Int)=3 from rfl]at E;obtain⟨M,X,Y,hk,hM⟩:=mZ (z:=4) (cs:=BC) (x:=.agg [Tx a,Tx b,Tx c,I 0]) rfl rfl xmb (m.next,0+12,4) ⟨m.hp,m.next+1⟩;have O:∀x,aY (tR (.aF x)) (some [],some [(m.next,0+12,4)])=true:=λ_=>rfl
 simp only[J,K,L,N,aE,xml,hM,E,cM,xfj,O,gC,cond_true];generalize f:M.new (m.next,0+17,19) _=M2;have P:IntoN M2 (m.next,0+17,19) (m.next,0+12,4) [Tx a,Tx b,Tx c] [0]:=⟨by rw[<-f,Mem.dP,aH rfl];rfl,by rw[<-f,Mem.dP,aD (λh=>by simp[Prod.ext_iff]at h),Y];rfl,λh=>by simp[Prod.ext_iff]at h⟩;obtain⟨t,o,Q,e2,R,W,e5,e6⟩:=JV d Z u (λw A=>by simp at A;rw[A];exact F) (by simp) (by simp) P;obtain⟨p,rfl⟩:∃p,o=[p]:=by
  match o,e2 with
  |[p],_=>exact⟨p,rfl⟩
 have e1':aG (d+5) Z rP [y,.sref (m.next,0+17,19) 0 0 1 1 true] M2=some (B (iO 9 [e]).isSome,t):=Q;have e3':t.get (m.next,0+12,4)=some (.row [Tx a,Tx b,Tx c,I p] 0 false):=R;have e4':∀l,iO 9 [e]=some l->[p]=l:=W;have ld:aA true 4 (.ptr (m.next,0+12,4) 0 0) t=some (.agg [Tx a,Tx b,Tx c,I p]):=(by rw[aM e3'];rfl);simp only[e1',aE,ld,x0o];have g:=xe0 (.pair a b c) e4';have D:KX [a,b,c,e]=yK (.pair a b c) (iO 9 [e]):=rfl;refine⟨t,(Act10.pair a b c p).v,by rw[D,g.1],λx H=>g.2 x (by rw[<-D];exact H),?_⟩
 .refine⟨by rw[e5,<-f];show _<=M.next+1;rw[X];simp;omega,λj C=>?_⟩;have i:∀{a b:Nat},j≠(m.next,a,b):=λh=>by rw[h]at C;simp at C
  rw[e6 j i,<-f,Mem.dP,aD i,hk j i];rfl
def xmq(a:List UInt8):cW BE [(0,1,Tx a)]=some (.agg [Tx a,I 0]):=by kernel_rfl
def xmf:BE.length=2:=by kernel_rfl
def xst(d:Nat){a e:List UInt8}(F:e.length<=100000):G5 (d+6) R9 [a,e] (KZ [a,e]):=by
 intro Z m;rw[x9u];unfold qm VC;have J:aT 1 (.aQ ([a,e].flatMap dA) [a,e].length false) (I 0)=some (.aF [Tx a,Tx e]):=rfl;have K:∀x r m,aA false 1 (.aF (x::r)) m=some x:=λ_ _ _=>rfl
 obtain⟨y,E,u⟩:=Sl.drop_strs (l:=[a,e]) rfl (n:=1) (by simp);rw[show((1:Nat):Int)=1 from rfl]at E;obtain⟨M,Q,R,W,X⟩:=mZ (z:=2) (cs:=BE) (x:=.agg [Tx a,I 0]) rfl rfl xmf (m.next,0+6,4) ⟨m.hp,m.next+1⟩;simp only[J,K,aE,xmq,X,E,cM,xfj];generalize f:M.new (m.next,0+11,13) _=M2;have L:IntoN M2 (m.next,0+11,13) (m.next,0+6,4) [Tx a] [0]:=⟨by rw[<-f,Mem.dP,aH rfl];rfl,by rw[<-f,Mem.dP,aD (λh=>by simp[Prod.ext_iff]at h),R];rfl,λh=>by simp[Prod.ext_iff]at h⟩;obtain⟨t,o,N,Y,O,P,e5,e6⟩:=JV d Z u (λw A=>by simp at A;rw[A];exact F) (by simp) (by simp) L;obtain⟨p,rfl⟩:∃p,o=[p]:=by
  match o,Y with
  |[p],_=>exact⟨p,rfl⟩
 have e1':aG (d+5) Z rP [y,.sref (m.next,0+11,13) 0 0 1 1 true] M2=some (B (iO 9 [e]).isSome,t):=N;have e3':t.get (m.next,0+6,4)=some (.row [Tx a,I p] 0 false):=O;have e4':∀l,iO 9 [e]=some l->[p]=l:=P;have ld:aA true 2 (.ptr (m.next,0+6,4) 0 0) t=some (.agg [Tx a,I p]):=(by rw[aM e3'];rfl);simp only[e1',aE,ld,x0r];have g:=xe0 (.corr a) e4';have D:KZ [a,e]=yK (.corr a) (iO 9 [e]):=rfl;refine⟨t,(Act10.corr a p).v,by rw[D,g.1],λx H=>g.2 x (by rw[<-D];exact H),?_⟩
 .refine⟨by rw[e5,<-f];show _<=M.next+1;rw[Q];simp;omega,λj C=>?_⟩;have i:∀{a b:Nat},j≠(m.next,a,b):=λh=>by rw[h]at C;simp at C
  rw[e6 j i,<-f,Mem.dP,aD i,W j i];rfl
def xmn(a b:List UInt8):cW BD [(0,1,Tx a),(1,1,Tx b)]=some (.agg [Tx a,Tx b,I 0,I 0]):=by kernel_rfl
def xmd:BD.length=4:=by kernel_rfl
def xss(d:Nat){a b c e:List UInt8}(hc:c.length<=100000)(he:e.length<=100000):G5 (d+6) R8 [a,b,c,e] (KY [a,b,c,e]):=by
 intro Z m;rw[x9t];unfold ql VB;have H:aT 1 (.aQ ([a,b,c,e].flatMap dA) [a,b,c,e].length false) (I 0)=some (.aF [Tx a,Tx b,Tx c,Tx e]):=rfl;have J:aT 1 (.aQ ([a,b,c,e].flatMap dA) [a,b,c,e].length false) (I 1)=some (.aF [Tx b,Tx c,Tx e]):=rfl;have K:∀x r m,aA false 1 (.aF (x::r)) m=some x:=λ_ _ _=>rfl
 obtain⟨y,E,u⟩:=Sl.drop_strs (l:=[a,b,c,e]) rfl (n:=2) (by simp);rw[show((2:Nat):Int)=2 from rfl]at E;obtain⟨M,R,W,X,Y⟩:=mZ (z:=4) (cs:=BD) (x:=.agg [Tx a,Tx b,I 0,I 0]) rfl rfl xmd (m.next,0+9,4) ⟨m.hp,m.next+1⟩;have L:∀x,aY (tR (.aF x)) (some [],some [(m.next,0+9,4)])=true:=λ_=>rfl
 simp only[H,J,K,aE,xmn,Y,E,cM,xfi,L,gC,cond_true];generalize f:M.new (m.next,0+15,17) _=M2;have N:IntoN M2 (m.next,0+15,17) (m.next,0+9,4) [Tx a,Tx b] [0,0]:=⟨by rw[<-f,Mem.dP,aH rfl];rfl,by rw[<-f,Mem.dP,aD (λh=>by simp[Prod.ext_iff]at h),W];rfl,λh=>by simp[Prod.ext_iff]at h⟩;obtain⟨t,o,O,e2,P,Q,e5,e6⟩:=JV d Z u (λw A=>by simp at A;rcases A with rfl|rfl<;>assumption) (by simp) (by simp) N;obtain⟨p,q,rfl⟩:∃p q,o=[p,q]:=by
  match o,e2 with
  |[p,q],_=>exact⟨p,q,rfl⟩
 have e1':aG (d+5) Z rP [y,.sref (m.next,0+15,17) 0 0 2 1 true] M2=some (B (iO 9 [c,e]).isSome,t):=O;have e3':t.get (m.next,0+9,4)=some (.row [Tx a,Tx b,I p,I q] 0 false):=P;have e4':∀l,iO 9 [c,e]=some l->[p,q]=l:=Q;have ld:aA true 4 (.ptr (m.next,0+9,4) 0 0) t=some (.agg [Tx a,Tx b,I p,I q]):=(by rw[aM e3'];rfl);simp only[e1',aE,ld,x0p];have g:=xey (.level a b) e4';have D:KY [a,b,c,e]=yJ (.level a b) (iO 9 [c,e]):=rfl;refine⟨t,(Act10.level a b p q).v,by rw[D,g.1],λx F=>g.2 x (by rw[<-D];exact F),?_⟩
 .refine⟨by rw[e5,<-f];show _<=M.next+1;rw[R];simp;omega,λj C=>?_⟩;have i:∀{a b:Nat},j≠(m.next,a,b):=λh=>by rw[h]at C;simp at C
  rw[e6 j i,<-f,Mem.dP,aD i,X j i];rfl
def xsr(d:Nat)(a:List UInt8):G5 (d+6) R7 [a] (aw [a]):=by
 intro Z m;rw[x9s];unfold qk VA;have e:aT 1 (.aQ ([a].flatMap dA) [a].length false) (I 0)=some (.aF [Tx a]):=rfl;have f:∀m,aA false 1 (.aF [Tx a]) m=some (Tx a):=λ_=>rfl
 simp only[e,f,aE,x0q];exact⟨_,_,rfl,λx b=>by cases b;rfl,vK _,λ_ _=>rfl⟩
def xsq(d:Nat)(a:List UInt8):G5 (d+6) R6 [a] (av [a]):=by
 intro Z m;rw[x9r];unfold qj UZ;have e:aT 1 (.aQ ([a].flatMap dA) [a].length false) (I 0)=some (.aF [Tx a]):=rfl;have f:∀m,aA false 1 (.aF [Tx a]) m=some (Tx a):=λ_=>rfl
 simp only[e,f,aE,x0m];exact⟨_,_,rfl,λx b=>by cases b;rfl,vK _,λ_ _=>rfl⟩
end Go.Ix
