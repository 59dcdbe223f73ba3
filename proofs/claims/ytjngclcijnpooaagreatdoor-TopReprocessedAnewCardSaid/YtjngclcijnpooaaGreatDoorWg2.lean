import Derived.Test.YtjngclcijnpooaaGreatDoorWg1
set_option maxRecDepth 10000
set_option linter.all false
open Go.Proofs.Tryz
noncomputable section
namespace Go.Ix
open Go.Proofs
def Gk.sl1{ok:Id->Prop}{m:Mem}{a:AV}{l:List Int}(h:Gk 1 intE ok m a l)(k:Nat):∃b,Ints b l/\Go.Ix.frz m.get (k+2) a=some b:=h.frz fR wI
def oX(t:Nat):Id->Prop:=λid=>id.1=0/\id.2.2=t
def kB(n:Nat)(P:List Pq)(F:List Int):List Int:=joinsM (freshM n) (prs P F)
def zu{n:Nat}{P:List Pq}{F:List Int}(h:Rng n P F):Lab n (kB n P F):=(Lab.fresh n).joins λp a=>by obtain⟨i,b,rfl⟩:=fF.mp a;exact(h i b).2
def Rng.take{n:Nat}{P:List Pq}{F:List Int}(h:Rng n P F)(k:Nat):Rng n P (F.take k):=λi a=>h i (FQ a)
def xma{n:Nat}{P:List Pq}{F:List Int}{k:Nat}(a:k<F.length):kB n P (F.take (k+1))=jG (kB n P (F.take k)) (cK P (at0 F k)):=by unfold kB prs;rw[mI a,nU,xd4,fD a];rfl
structure Right7 (l:List Scene) (P:List Pq):Prop where
 ll:l.length<=60
 ib:InB l
 pl:P.length<=200
 pr:∀p∈P,PqIn l.length p
 nd:P.Nodup
def xb0{n:Int}{P:List Pq}:∀(d:List Pq) (k:Nat),P.drop k=d->(y5 n P k d).2=0->(∀p∈d,(0<=p.a/\p.a<p.b)/\p.b<n)/\((P.take k).Nodup->P.Nodup)
 |[],k,i,_=>⟨λp g=>(by cases g),λh=>by
  have:P.length<=k:=gZ.mp i
  rwa[dM this]at h⟩
 |x::r,k,i,h=>by
  obtain⟨w,y,i⟩:=gW i;simp only[y5]at h;cases f:wi x.a 0 (n-1)with
  |false=>simp[f]at h
  |true=>
   cases j:wi x.b 0 (n-1)with
   |false=>simp[f,j]at h
   |true=>
    by_cases m:x.b<=x.a
    .simp[f,j,m]at h
    .cases l:(P.take k).any λq=>q.same x with
     |true=>simp[f,j,m,l]at h
     |false=>
      simp[f,j,m,l]at h;obtain⟨A,C⟩:=xb0 r (k+1) i h;refine⟨λp g=>?_,λt=>C ?_⟩
      .have:=xJ f;have:=xJ j;rcases dW.mp g with rfl|g
       .omega
       .exact A p g
      .rw[mI w,zS];refine⟨t,by simp,λa u b o e=>?_⟩;simp at o;rw[GA]at l;have:=l a u;rw[e,o,y,Pq.same_self]at this;exact this rfl
def xwd{l:List Scene}{P:List Pq}(h:(uH l P).2=0):Right7 l P:=by
 unfold uH at h;by_cases a:(rV l).2=0
 .obtain⟨e,f⟩:=xaw a;simp[a]at h;by_cases b:200<P.length
  .simp[b]at h
  .simp[b]at h;obtain⟨g,i⟩:=xb0 P 0 rfl h;exact⟨e,f,by omega,λp d=>by have:=g p d;exact⟨by omega,by omega,by omega⟩,i (by simp)⟩
 .simp[a]at h
def Right7.at{l:List Scene}{P:List Pq}(h:Right7 l P){i:Int}(a:0<=i/\i<P.length):PqIn l.length (cK P i):=JL h.pr a
end Go.Ix
namespace Go.Ix
variable{P:List Pq}{n:Nat}
def tN(a:Int->Int):List Sp->Int
 |[]=>0
 |x::r=>x.s*a x.p+tN a r
def PotS(P:List Pq)(F:List Int)(ph φ:Int->Int):Prop:=∀i∈F,φ (cK P i).b-φ (cK P i).a=ph i
def PotS.step{F:List Int}{ph φ:Int->Int}(h:PotS P F ph φ){x:Sp}(a:jZ F x):x.s*ph x.p=φ (dA P x)-φ (eR P x):=by have:=h x.p a.1;unfold dA eR;rcases a.2 with e|e<;>rw[e]<;>simp<;>omega
def PotS.walk{F:List Int}{ph φ:Int->Int}(h:PotS P F ph φ):∀{w:List Sp} {a b:Int},Wk P w a b->AllF F w->tN ph w=φ b-φ a
 |[],a,b,d,_=>by cases d;simp[tN]
 |x::r,a,b,d,e=>by rw[tN,h.step e.head,h.walk d.2 e.tail,<-d.1];omega
def xul(t:∀p∈P,PqIn n p)(m:Int->Int):∀(k:Nat) (F:List Int),F.length=k->For n P F->∃φ,PotS P F m φ:=by
 intro k;induction k with
 |zero=>intro F l _;exact⟨λ_=>0,λi g=>by rw[rM.mp l]at g;cases g⟩
 |succ k A=>
  intro F l h;obtain⟨G,q,rfl⟩:∃G q,F=G++[q]:=(by have d:F≠[]:=(by rintro rfl;simp at l);exact⟨F.dropLast,F.getLast d,(fe d).symm⟩);have o:=h.take;obtain⟨φ,y⟩:=A G (by simpa using l) o;obtain⟨u,r⟩:∃u,u=joinsM (freshM n) (prs P G):=⟨_,rfl⟩;have e:=h.ind;unfold prs at e;rw[nU]at e;have d:¬Sm u (cK P q).a.toNat (cK P q).b.toNat:=(by have:=(Indep.app.mp e).2;rw[show List.map (cK P) [q]=[cK P q]from rfl]at this;rw[r];exact this.1);have f:∀j∈G,Sm u (cK P j).a.toNat (cK P j).b.toNat:=λj w=>by rw[r];exact C8 (Lab.fresh n) (oW t o.rng) _ (fF.mpr ⟨j,w,rfl⟩)
  unfold Sm at d f;refine⟨λv=>φ v+(if at0 u v.toNat=at0 u (cK P q).b.toNat then m q-(φ (cK P q).b-φ (cK P q).a)else 0),λi g=>?_⟩;rcases iF.mp g with g|g
  .have C:=y i g;have x:=f i g;simp only
   rw[x];omega
  .simp at g;subst g;simp only
   rw[aF trivial,aB d];omega
structure Pot (n:Nat) (P:List Pq) (F:List Int) (ph φ:Int->Int):Prop where
 st:PotS P F ph φ
 z:∀v,v<n->at0 (joinsM (freshM n) (prs P F)) v=v->φ v=0
def xuk(a:∀p∈P,PqIn n p)(b:Int->Int){F:List Int}(h:For n P F):∃φ,Pot n P F b φ:=by
 obtain⟨φ,g⟩:=xul a b F.length F rfl h;refine⟨λv=>φ v-φ (at0 (joinsM (freshM n) (prs P F)) v.toNat),λi d=>?_,λv j e=>?_⟩
 .have l:=g i d;have f:=C8 (Lab.fresh n) (oW a h.rng) (cK P i) (fF.mpr ⟨i,d,rfl⟩);unfold Sm at f;rw[f];omega
 .show φ v-φ (at0 (joinsM (freshM n) (prs P F)) (v:Int).toNat)=0;rw[hJ,e];omega
open Classical in
def lK(n:Nat)(P:List Pq)(F:List Int)(a:Int->Int):Int->Int:=if h:∃φ,Pot n P F a φ then Classical.choose h else λ_=>0
def xb2(b:∀p∈P,PqIn n p)(a:Int->Int){F:List Int}(h:For n P F):Pot n P F a (lK n P F a):=by have:=xuk b a h;unfold lK;rw[dif_pos this];exact Classical.choose_spec this
def xab{a:Int->Int}{M:Nat}{F:List Int}(b:∀i∈F,(a i).natAbs<=M):∀{w:List Sp},AllF F w->(tN a w).natAbs<=w.length*M
 |[],_=>by simp[tN]
 |x::r,h=>by have d:=xab b h.tail;have f:=b x.p h.head.1;have g:(x.s*a x.p).natAbs=(a x.p).natAbs:=(by rcases h.head.2 with e|e<;>rw[e]<;>simp);rw[tN,dN,lT];omega
def Pot.abs(d:∀p∈P,PqIn n p){ph φ:Int->Int}{F:List Int}(e:For n P F)(h:Pot n P F ph φ){M:Nat}(m:∀i∈F,(ph i).natAbs<=M){v:Nat}(g:v<n):(φ v).natAbs<=n*M:=by have o:=(Lab.fresh n).joins (oW d e.rng);obtain⟨C,D,l⟩:=o.ok v g;obtain⟨w,u,f⟩:=xd5 d e.rng (v:=(at0 (joinsM (freshM n) (prs P F)) v).toNat) (w:=v) (by omega) g (by unfold Sm;exact l);obtain⟨x,b,a,y⟩:=xcx u f;have j:=xwi (e.cut d) b a y;have r:=e.len d;have Z:=h.st.walk b a;have t:=h.z (at0 (joinsM (freshM n) (prs P F)) v).toNat (by omega) (by rw[l];omega);rw[t]at Z;have A:=xab m a;have:x.length*M<=n*M:=nT M (by omega);omega
structure RSt where
 y:List Sp
 k:List Bool
def LH(l:List Sp)(i:Int):Sp:=l.getD i.toNat ⟨0,0⟩
def boA(l:List Bool)(i:Int):Bool:=l.getD i.toNat false
def IX(P:List Pq)(st:RSt)(x:Sp):RSt:=if boA st.k (eR P x)&&!(boA st.k (dA P x))then⟨st.y.set (dA P x).toNat x,st.k.set (dA P x).toNat true⟩else st
def Bw(P:List Pq)(F:List Int)(st:RSt)(fr:Int):List Sp->Int->Prop
 |[],v=>boA st.k v=true/\v=fr
 |x::r,v=>boA st.k v=true/\v≠fr/\LH st.y v=x/\dA P x=v/\jZ F x/\Bw P F st fr r (eR P x)
def Bw.one{F:List Int}{st:RSt}{fr:Int}:∀{r s:List Sp} {v:Int},Bw P F st fr r v->Bw P F st fr s v->r=s
 |[],[],_,_,_=>rfl
 |[],x::s,_,h,k=>absurd h.2 k.2.1
 |x::r,[],_,h,k=>absurd k.2 h.2.1
 |x::r,y::s,v,h,k=>by have e:x=y:=h.2.2.1.symm.trans k.2.2.1;subst e;rw[Bw.one h.2.2.2.2.2 k.2.2.2.2.2]
def Bw.walk{F:List Int}{st:RSt}{fr:Int}:∀{r:List Sp} {v:Int},Bw P F st fr r v->Wk P r.reverse fr v/\AllF F r.reverse
 |[],v,h=>⟨h.2.symm,λx b=>by cases b⟩
 |x::r,v,h=>by obtain⟨d,e⟩:=h.2.2.2.2.2.walk;rw[xh2];refine⟨d.app ⟨rfl,h.2.2.2.1⟩,e.app λy a=>?_⟩;simp at a;subst a;exact h.2.2.2.2.1
def Bw.drop{F:List Int}{st:RSt}{fr:Int}:∀{a b:List Sp} {v:Int},Bw P F st fr (a++b) v->∃w,Bw P F st fr b w
 |[],b,v,h=>⟨v,h⟩
 |x::a,b,v,h=>Bw.drop (a:=a) h.2.2.2.2.2
def xcw:∀{w:List Sp} {x:Sp},NB P w->(∀y,w.getLast?=some y->dA P x≠eR P y)->NB P (w++[x])
 |[],_,_,_=>trivial
 |[y],x,_,h=>⟨h y rfl,trivial⟩
 |y::z::r,x,h,b=>⟨h.1,xcw (w:=z::r) h.2 λq a=>b q (by simpa using a)⟩
def Bw.nb{F:List Int}{st:RSt}{fr:Int}:∀{r:List Sp} {v:Int},Bw P F st fr r v->NB P r.reverse
 |[],_,_=>trivial
 |[x],_,_=>trivial
 |x::y::r,v,h=>by
  have b:=h.2.2.2.2.2;have f:=b.nb;rw[xh2];refine xcw f λz a e=>?_
  rw[xh2]at a;simp at a;subst a;have d:=b.2.2.2.2.2;rw[<-e,h.2.2.2.1]at d;have:=congrArg List.length (d.one h);simp only[dN]at this;omega
structure RInv7 (n:Nat) (P:List Pq) (F:List Int) (f0:Int) (st:RSt):Prop where
 y:st.y.length=n
 k:st.k.length=n
 fr:boA st.k f0=true
 bw:∀v:Int,0<=v->v<n->boA st.k v=true->∃r,Bw P F st f0 r v
def U9{l:List Bool}{b v:Int}(a:0<=b)(d:b<l.length)(e:0<=v):boA (l.set b.toNat true) v=if v=b then true else boA l v:=by
 unfold boA;rw[fU,fU,FU];by_cases c:v=b
 .rw[aF c,c,aF rfl,aF (by omega)];rfl
 .rw[aB c,aB (by omega)]
def xgz{l:List Sp}{b v:Int}{x:Sp}(a:0<=b)(d:b<l.length)(e:0<=v):LH (l.set b.toNat x) v=if v=b then x else LH l v:=by
 unfold LH;rw[fU,fU,FU];by_cases c:v=b
 .rw[aF c,c,aF rfl,aF (by omega)];rfl
 .rw[aB c,aB (by omega)]
def uS(a:∀p∈P,PqIn n p){F:List Int}(b:∀i∈F,0<=i/\i<P.length){x:Sp}(d:jZ F x):(0<=eR P x/\eR P x<n)/\0<=dA P x/\dA P x<n:=by obtain⟨e,f,g⟩:=JL a (b x.p d.1);unfold eR dA;split<;>omega
def Bw.set(g:∀p∈P,PqIn n p){F:List Int}(j:∀i∈F,0<=i/\i<P.length){st:RSt}{fr b:Int}{x:Sp}(m:st.y.length=n)(o:st.k.length=n)(d:0<=b)(t:b<n)(l:boA st.k b=false):∀{r:List Sp} {v:Int},0<=v->Bw P F st fr r v ->
    Bw P F ⟨st.y.set b.toNat x,st.k.set b.toNat true⟩ fr r v
 |[],v,e,h=>by
  refine⟨?_,h.2⟩;simp only
  rw[U9 d (by omega) e];split
  .rfl
  .exact h.1
 |y::r,v,e,h=>by
  have a:v≠b:=(by rintro rfl;have:=h.1;rw[l]at this;cases this);refine⟨?_,h.2.1,?_,h.2.2.2.1,h.2.2.2.2.1,Bw.set g j m o d t l (uS g j h.2.2.2.2.1).1.1 h.2.2.2.2.2⟩
  .simp only
   rw[U9 d (by omega) e,aB a];exact h.1
  .simp only
   rw[xgz d (by omega) e,aB a];exact h.2.2.1
def RInv7.step(j:∀p∈P,PqIn n p){F:List Int}(l:∀i∈F,0<=i/\i<P.length){fr:Int}(m:0<=fr){st:RSt}(h:RInv7 n P F fr st){x:Sp}(t:jZ F x) :
    RInv7 n P F fr (IX P st x)/\(∀v,0<=v->boA st.k v=true->boA (IX P st x).k v=true)/\(boA st.k (eR P x)=true->boA (IX P st x).k (dA P x)=true):=by
 obtain⟨⟨u,C⟩,b,d⟩:=uS j l t;unfold IX;cases D:boA st.k (eR P x)with
 |false=>simp;exact h
 |true=>
  cases g:boA st.k (dA P x)with
  |true=>simp;exact⟨h,g⟩
  |false=>
   simp only[cF,gD,cM];have a:∀v,0<=v->boA st.k v=true->boA (st.k.set (dA P x).toNat true) v=true:=λv w Z=>by
    rw[U9 b (by rw[h.k];exact d) w];split
    .rfl
    .exact Z
   have yS:boA (st.k.set (dA P x).toNat true) (dA P x)=true:=(by rw[U9 b (by rw[h.k];exact d) b,aF rfl]);refine⟨⟨by simp[h.y],by simp[h.k],a fr m h.fr,λv f A Z=>?_⟩,a,λ_=>yS⟩;simp only at Z;rw[U9 b (by rw[h.k];exact d) f]at Z;by_cases c:v=dA P x
   .obtain⟨r,o⟩:=h.bw (eR P x) u C D;refine⟨x::r,?_,?_,?_,c.symm,t,Bw.set j l h.y h.k b d g u o⟩
    .rw[c];exact yS
    .intro e;have:=h.fr;rw[<-e,c,g]at this;cases this
    .simp only
     rw[xgz b (by rw[h.y];exact d) f,aF c]
   .rw[aB c]at Z;obtain⟨r,o⟩:=h.bw v f A Z;exact⟨r,Bw.set j l h.y h.k b d g f o⟩
def r0(n:Nat)(fr:Int):RSt:=⟨List.replicate n ⟨0,0⟩,(List.replicate n false).set fr.toNat true⟩
open Go.Proofs
def xe5{a:Id->Option Ob}{id:Id}{d:List AV}{v b k:Nat}{f:Bool}(h:a id=some (.row d v f)):Go.Ix.frz a (k+1) (.ptr id v b)=((d.drop b).mapM (Go.Ix.frz a k)).map AV.aE:=by simp only[Go.Ix.frz,h,cM]
def xe6{b:Id->Option Ob}{id:Id}{a d:AV}{v k:Nat}{f:Bool}(h:b id=some (.row [a] v f))(e:Go.Ix.frz b k a=some d):Go.Ix.frz b (k+1) (.ptr id v 0)=some (.aE [d]):=by rw[xe5 h];simp only[bC,eI,gX,e];rfl
def xj7:WA=[nilS,nilS]:=by kernel_rfl
def x2v:∀n:Nat,n<=12->mM prog eB WJ (I n)=some (.sc (.int .u64 n))
 |0,_=>by kernel_rfl
 |1,_=>by kernel_rfl
 |2,_=>by kernel_rfl
 |3,_=>by kernel_rfl
 |4,_=>by kernel_rfl
 |5,_=>by kernel_rfl
 |6,_=>by kernel_rfl
 |7,_=>by kernel_rfl
 |8,_=>by kernel_rfl
 |9,_=>by kernel_rfl
 |10,_=>by kernel_rfl
 |11,_=>by kernel_rfl
 |12,_=>by kernel_rfl
 |n+13,h=>by omega
def x9b(a:aJ):∀n:Nat,n<=12->∃v:Int,oa a [] [.sc (.int .u64 n)] mem0=some (I v,⟨[],1⟩)
 |0,_=>⟨0,by kernel_rfl⟩
 |1,_=>⟨1,by kernel_rfl⟩
 |2,_=>⟨2,by kernel_rfl⟩
 |3,_=>⟨2,by kernel_rfl⟩
 |4,_=>⟨3,by kernel_rfl⟩
 |5,_=>⟨3,by kernel_rfl⟩
 |6,_=>⟨3,by kernel_rfl⟩
 |7,_=>⟨3,by kernel_rfl⟩
 |8,_=>⟨4,by kernel_rfl⟩
 |9,_=>⟨4,by kernel_rfl⟩
 |10,_=>⟨4,by kernel_rfl⟩
 |11,_=>⟨4,by kernel_rfl⟩
 |12,_=>⟨4,by kernel_rfl⟩
 |n+13,h=>by omega
def xlg(d:Nat){n:Nat}(b:n<=12)(m:Mem):∃v:Int,aI (aH (d+2)) DP [.sc (.int .u64 n)] m=some (I v,m):=by
 obtain⟨v,e⟩:=x9b (aH d) n b;have a:∀m,aI (aH (d+1)) DO [.sc (.int .u64 n)] m=some (I v,m):=λm=>by refine eZ rfl ?_ m;rw[x6y,e];exact RetF.st rfl rfl
 refine⟨v,eZ rfl ?_ m⟩;rw[x6z];unfold oc bW UI;simp[mem0,a];exact RetF.st rfl rfl
def xgw(d:Nat)(Z:FHs){a:AV}{ok:Id->Prop}{L:List Int}{m:Mem}(g:L.length<=12)(h:Gk 1 intE ok m a L) :
    ∃b,aH (d+5) Z A0 [a] m=some (.tup [],b)/\Gk 1 intE ok b a (iE (λx y=>decide (x<y)) (L.length-1) L)/\m.next<=b.next/\uX ok m b:=by
 rw[x4n];unfold ja bW QA;obtain⟨v,n⟩:=xlg (d+2) g (⟨m.hp,m.next+1⟩:Mem);simp only[h.len jA,aG,x2v _ g,n];rw[x4k];unfold iw zA PT;obtain⟨i,f⟩:∃i,NN=i+1:=⟨NN-1,by have:=dF;omega⟩;rw[f];simp only[MK];unfold rx;obtain⟨b,o,p,r,t⟩:=x7r d Z (L:=L) (m:=⟨m.hp,m.next+1+1⟩) (by omega) (h.frame λ_ _=>rfl);have e:(L.length:Int)<=12:=(by omega);simp[o];rw[bQ];simp[e];exact⟨p,by have:b.next=m.next+1+1+1:=r;omega,λj l=>by rw[t j l];rfl⟩
def fW(l:List Scene)(P:List Pq)(i:Int):Int:=lenP l (cK P i)
def x26(d:Nat){s p:AV}{l:List Scene}{P:List Pq}(Z:Sl Scene.c s l)(e:Sl Pq.c p P)(a:Right7 l P)(id:Id)(b:id.1=0):NF (aH (d+3)) (.clo N9 [.ptr id 0 0]) id (.row [s,p] 0 false) P.length (λx y=>fW l P x-fW l P y):=by intro t x y m f g h n u;refine⟨m.next+1,by omega,?_⟩;show aH (d+3) t N9 [I x,I y,.ptr id 0 0] m=_;have o:=a.at (i:=x) ⟨f,g⟩;have r:=a.at (i:=y) ⟨h,n⟩;have A:=xdq a.ib o;have C:=xdq a.ib r;rw[x35];unfold gx fC OY;have hg':(⟨m.hp,m.next+1⟩:Mem).get id=some (.row [s,p] 0 false):=u;obtain⟨i,j,k⟩:=id;simp at b;subst b;have w:Nat.ble 1 (m.next+1)=true:=(by rw[Nat.ble_eq];omega);unfold fW;simp[w,hg',yz d Z e a.ib ⟨f,g⟩ o,yz d Z e a.ib ⟨h,n⟩ r,Z.eM,e.eM,cU,tR,Nat.blt];rw[bQ]
def ord_rng{f:Int->Int}{N:Nat}:InN N (eG f N):=λx a=>((y8 f N).2 x).mp a
def ZA(f:Int->Int)(N:Nat):(eG f N).length=N:=by
 have:=xaz (y8 f N).nodup (bq N).nodup λx=>((y8 f N).2 x).trans fresh_mem.symm
 rw[this];simp[freshM]
def xuw{l:List Scene}{P:List Pq}(a:Right7 l P)(f:Int->Int)(k:Nat):Rng l.length P ((eG f P.length).take k):=λi b=>by have:=ord_rng _ (FQ b);exact⟨this,a.at this⟩
def x86(d:Nat){s p:AV}{l:List Scene}{P:List Pq}(Z:Sl Scene.c s l)(R:Sl Pq.c p P)(u:Right7 l P)(hl:l.length<=12)(hP:P.length<=19) :
    RetF (λv=>Ints v (jS (fW l P) l.length P)) (aH (d+7) [] O0 [.agg [s,p]] mem0):=by
 rw[x36];unfold gy bW OV qq;simp[mem0,Z.one,R.one,R.len J9];refine nH (N:=P.length) (λn k a m Y=>X1 (aH (d+6)) [] 0 n (.ptr (0,0,1) 0 0) a nilS (I P.length) (I k) m Y)
  (λk a m=>m.get (0,0,1)=some (.row [s,p] 0 false)/\Gk 1 intE (oX 19) m a ((freshM P.length).take k)/\m.next=1) _ ?_ ?_ NN 0 nilS _ _ (by omega) (by rw[dF];omega) ⟨by simp,by simpa using Gk.nil,rfl⟩
 .rintro n k a m Y r ⟨h,W,hn⟩ next;have hk':(k:Int)<(P.length:Int):=(by omega);have hlt:((freshM P.length).take k).length=k:=(by simp[freshM];omega);obtain⟨a2,g,L,i,-,-,e3,e4⟩:=W.app (bytes:=8) (id0:=(0,Y+6,19)) fR (by omega) ⟨rfl,rfl⟩ (by unfold cH;omega) (k:Int);simp only[X1];unfold OW;simp(disch:=omega) [hk',mU,bQ];rw[show elems m.get 1 (.aN [I (k:Int)] 1 true)=some (intE (k:Int),1)from rfl,L];exact next a2 g _ ⟨by rw[e4 _ (by unfold oX;simp)];exact h,by rw[<-KN r];exact i,by omega⟩
 .rintro n a m Y ⟨h,W,hn⟩;have r:¬((P.length:Int)<(P.length:Int)):=(by omega);rw[dM (by simp[freshM])]at W;have hfl:(freshM P.length).length=P.length:=(by simp[freshM]);obtain⟨m1,c1,c2,O,c4⟩:=x71 (d+3) [] (x26 d Z R u (0,0,1) rfl) (ok:=oX 19) (by unfold oX;simp) (by omega) (λx w=>fresh_mem.mp w) W h;rw[show(λx y=>decide (fW l P x-fW l P y<0))=λx y=>decide (fW l P x<fW l P y)from by funext x y;exact decide_eq_decide.mpr (by omega),xzx]at c2;have C:m1.get (0,0,1)=some (.row [s,p] 0 false):=(by rw[c4 _ (by unfold oX;simp)];exact h);obtain⟨ua,M,hc,X,hM,Q⟩:=yx (d+5) (n:=l.length) (by omega) m1;simp only[X1];unfold OW qr;simp[c1,C,Z.len lF,hc];have hgM:M.get (0,0,1)=some (.row [s,p] 0 false):=(by rw[Q _ (by show 0<m1.next;omega)];exact C);have D:Gk 1 intE (oX 19) M a (eG (fW l P) P.length):=c2.frame λj e=>Q j (by obtain⟨E,h2⟩:=e;omega)
  have hol:=ZA (fW l P) P.length;unfold qs;simp only[D.len jA,aG];generalize hN1:m1.next=t at *
  have hN0:1<=t:=(by omega);refine nH (N:=(eG (fW l P) P.length).length) (λn k o m Y=>X2 (aH (d+6)) [] 0 n (.ptr (0,0,1) 0 0) o ua a (I (eG (fW l P) P.length).length) (I k) m Y)
   (λk o m=>(m.get (0,0,1)=some (.row [s,p] 0 false)/\t<m.next)/\Gk 1 intE (oX 19) m a (eG (fW l P) P.length)/\Gk 1 intE (λid=>id.1=t) m ua (kB l.length P ((eG (fW l P) P.length).take k)) /\
    Gk 1 intE (oX 46) m o (jP P (freshM l.length) ((eG (fW l P) P.length).take k))) _ ?_ ?_ NN 0 nilS _ _ (by omega) (by rw[dF];omega) ⟨⟨hgM,by omega⟩,D,by simpa[kB,prs,joinsM]using X,by simpa[jP]using Gk.nil⟩
  .rintro n k o m Y r ⟨⟨h,hmn⟩,hO,X,A⟩ next;have hk':(k:Int)<((eG (fW l P) P.length).length:Int):=(by omega);obtain⟨q,i1,l1,-⟩:=hO.at (k:=(k:Int)) (by omega) hk';rw[hJ]at l1;have w:=ord_rng.get r;have hRk:=xuw u (fW l P) k;have hL:=(zu hRk).len;have hq:=u.at w;have ip:=R.ixz Pq.len w.1 w.2;have lp:=λm=>jF (m:=m) (enc:=Pq.c) Pq.len (by omega) (show(at0 (eG (fW l P) P.length) k).toNat<P.length by omega)
   rw[<-JK (by omega)]at lp;have hus:=xma (n:=l.length) (P:=P) r;have f:jP P (freshM l.length) ((eG (fW l P) P.length).take (k+1))=jP P (freshM l.length) ((eG (fW l P) P.length).take k)++(if at0 (kB l.length P ((eG (fW l P) P.length).take k)) (cK P (at0 (eG (fW l P) P.length) k)).a.toNat=at0 (kB l.length P ((eG (fW l P) P.length).take k)) (cK P (at0 (eG (fW l P) P.length) k)).b.toNat then[]else[at0 (eG (fW l P) P.length) k]):=(by rw[mI r,xmx,fD r];rfl);have htl:(jP P (freshM l.length) ((eG (fW l P) P.length).take k)).length<=20:=(by have E:=(AY (P:=P) ((eG (fW l P) P.length).take k) (freshM l.length)).length_le;simp at E;omega);obtain⟨g,L,i,e3,e4⟩:=xgt (d+5) [] X (λj e=>by have hj':j.1=t:=e;omega) (p:=cK P (at0 (eG (fW l P) P.length) k)) (by rw[hL];exact hq) (by rw[hL];omega);have keep:∀j:Id,j.1=0->g.get j=m.get j:=λj e=>e4 j (by show ¬j.1=t;omega) (by omega)
   simp only[Pq.c]at lp;simp only[X2];unfold OX qt;have F:Gk 1 intE (oX 19) g a (eG (fW l P) P.length):=hO.frame λj e=>keep j e.1
   have H:Gk 1 intE (oX 46) g o (jP P (freshM l.length) ((eG (fW l P) P.length).take k)):=A.frame λj e=>keep j e.1
   have J:g.get (0,0,1)=some (.row [s,p] 0 false):=(by rw[keep _ rfl];exact h);rw[<-hus]at i;simp only[bV,hk',bG,aT,aG,i1,l1];simp[h,ip,lp,L];by_cases O:at0 (kB l.length P ((eG (fW l P) P.length).take k)) (cK P (at0 (eG (fW l P) P.length) k)).a.toNat=at0 (kB l.length P ((eG (fW l P) P.length).take k)) (cK P (at0 (eG (fW l P) P.length) k)).b.toNat
   .rw[aF O,iH]at f;simp[O];unfold GH;simp(disch:=omega) [bQ];exact next o g _ ⟨⟨J,by omega⟩,F,i,by rw[f];exact H⟩
   .rw[aB O]at f;obtain⟨o2,m3,a1,a2,-,-,a3,a4⟩:=H.app (bytes:=8) (id0:=(0,Y+1+14,46)) fR (by omega) ⟨rfl,rfl⟩ (by unfold cH;omega) (at0 (eG (fW l P) P.length) k);simp[O,mU];rw[show ∀x:Int,elems g.get 1 (.aN [I x] 1 true)=some (intE x,1)from λ_=>rfl,a1];unfold GH;simp(disch:=omega) [bQ];refine next o2 m3 _ ⟨⟨by rw[a4 _ (by unfold oX;simp)];exact J,by omega⟩,F.frame λj e=>a4 j (by obtain⟨E,h2⟩:=e;unfold oX;omega),i.frame λj e=>a4 j (by have hj':j.1=t:=e;unfold oX;omega),by rw[f];exact a2⟩
  .rintro n o m Y ⟨⟨h,hmn⟩,hO,X,A⟩;rw[dM (bO _)]at A;have hTL:jP P (freshM l.length) (eG (fW l P) P.length)=yO (fW l P) l.length P:=rfl;rw[hTL]at A;have hlen:=(xdp u.pr (fW l P)).len u.pr;obtain⟨g,L,i,e3,e4⟩:=xgw (d+1) [] (by omega) A;obtain⟨s1,s2⟩:=xzz (xdo (n:=l.length) (P:=P) (fW l P));have K:iE (λx y=>decide (x<y)) ((yO (fW l P) l.length P).length-1) (yO (fW l P) l.length P)=jS (fW l P) l.length P:=s1.one (xdm _) λx=>(s2 x).trans light_mem.symm
   rw[K]at i;simp only[X2];unfold OX qu;simp[L];obtain⟨v,E,h2⟩:=i.sl1 4;exact RetF.mk h2 E
def xky(d:Nat){s p:AV}{l:List Scene}{P:List Pq}(Z:Sl Scene.c s l)(a:Sl Pq.c p P)(b:Right7 l P)(e:l.length<=12)(f:P.length<=19)(m:Mem) :
    ∃v,Ints v (jS (fW l P) l.length P)/\aI (aH (d+7)) O0 [.agg [s,p]] m=some (v,m):=
 rI (by simp[Z.aP,a.aP]) (x86 d Z a b e f) m
end Go.Ix
namespace Go.Ix
variable{α:Type}{z:Nat}{enc:α->List AV}
def xai(a:∀x,(enc x).length=z)(x:α):∀(l:List α) (k:Nat),k<l.length->cS (l.flatMap enc) (k*z) (enc x)=(l.set k x).flatMap enc
 |[],_,h=>by simp at h
 |y::r,0,_=>by simp only[cS,wW,bR,jM,iW,List.set_cons_zero,dT];rw[a,<-a y,x9o (bO _),lV (bO _),iW]
 |y::r,k+1,h=>by have b:=xai a x r k (by simpa using h);simp only[cS,eo,dT]at b ⊢;rw[lT,show k*z+z=(enc y).length+k*z by rw[a];omega,ej,oG,H1,oI,<-b];have e:(enc y).length+(k*z+(enc x).length)-(enc y).length=k*z+(enc x).length:=(by omega);rw[e,lV (by omega),iW]
open Go.Proofs
def bE(b:Bool):List AV:=[B b]
theorem x8k(b:Bool):(bE b).length=1:=rfl
variable{α:Type}{z:Nat}{enc:α->List AV}
def Ow(a:α->List AV)(m:Mem)(id:Id)(l:List α):Prop:=m.get id=some (.row (l.flatMap a) 0 false)
def Ow.fr{m a:Mem}{id:Id}{l:List α}(h:Ow enc m id l)(e:a.get id=m.get id):Ow enc a id l:=by unfold Ow;rw[e];exact h
def xuu{id:Id}{n:Nat}{k:Int}(a:0<=k)(b:k<n):aR z (.sref id 0 0 n z true) (I k)=some (.ptr id 0 (k.toNat*z)):=by simp[aR,dL,a,b]
def Ow.ld(a:∀x,(enc x).length=z){m:Mem}{id:Id}{l:List α}(h:Ow enc m id l){k:Nat}(b:k<l.length){g:Bool}:aA g z (.ptr id 0 (k*z)) m=rd g z (enc l[k]++(l.drop (k+1)).flatMap enc):=by rw[aQ h,yY a,fX b,dT]
def Ow.st(a:∀x,(enc x).length=z){m:Mem}{id:Id}{l:List α}(h:Ow enc m id l){k:Nat}(d:k<l.length){x:α}{v:AV}(b:v.cells=enc x)(e:(enc x).all AV.one=true) :
    (∀{R:Type} (K:Mem->Option R),aU z (.ptr id 0 (k*z)) v m K=K (m.set id (.row ((l.set k x).flatMap enc) 0 false)))/\Ow enc (m.set id (.row ((l.set k x).flatMap enc) 0 false)) id (l.set k x):=by
 refine⟨λK=>?_,by unfold Ow;simp⟩;have f:=gG a l;rw[lY (z:=z) (x:=v) (k:=K) h (by rw[b,a]) (by rw[f];have:=nT z (show k+1<=l.length from d);rw[lT]at this;exact this) (by rw[b];exact e),b,xai a x l k d]
def xjr{z:List AV}{c:AV}(a:∀i,i<z.length->z.getD i (.sc undef)=c)(b:0<z.length)(k:Nat):eN z k=List.replicate k c:=by
 unfold eN;apply FY
 .simp
 .intro i d e;simp only[G9,List.getElem_range,List.getElem_replicate];exact a _ (G7 _ b)
def xpc(n:Nat)(c:AV)(x:α)(a:enc x=List.replicate z c):(List.replicate n x).flatMap enc=List.replicate (n*z) c:=by
 induction n with
 |zero=>simp
 |succ n b=>rw[xh3,dT,b,a,lT,ef,List.replicate_append_replicate]
def xc5{R:Type}{b:List AV}{c:AV}{a:Nat}(d:a<=64)(e:b.length=z)(f:∀i,i<b.length->b.getD i (.sc undef)=c)(g:0<b.length){x:α}(h:enc x=List.replicate z c){n:Nat}(j:n<=1000000)(id:Id)(m:Mem)(k:AV->Mem->Option R) :
    rW b z a (I n) (I n) id m k=k (.sref id 0 0 n z true) (m.new id (.row ((List.replicate n x).flatMap enc) 0 false)):=by
 have l:a*n<=64*1000000:=V6 d j;simp only[rW,dL];rw[aF ⟨by omega,MR _,by omega,by omega⟩,xjr f g,xpc n c x h];simp
def HI:HK=[B false]:=by kernel_rfl
def xw2{R:Type}{n:Nat}(b:n<=1000000)(id:Id)(m:Mem)(k:AV->Mem->Option R):rW HK 1 1 (I n) (I n) id m k=k (.sref id 0 0 n 1 true) (m.new id (.row ((List.replicate n false).flatMap bE) 0 false)):=
 xc5 (enc:=bE) (c:=B false) (by omega) (by rw[HI];rfl) (by rw[HI];intro i a;simp at a;subst a;rfl) (by rw[HI];simp) rfl b id m k
def xw1{R:Type}{n:Nat}(b:n<=1000000)(id:Id)(m:Mem)(k:AV->Mem->Option R):rW hY 1 8 (I n) (I n) id m k=k (.sref id 0 0 n 1 true) (m.new id (.row ((List.replicate n (0:Int)).flatMap intE) 0 false)):=
 xc5 (enc:=intE) (c:=I 0) (by omega) (by rw[mU];rfl) (by rw[mU];intro i a;simp at a;subst a;rfl) (by rw[mU];simp) rfl b id m k
def Ow.ldB{m:Mem}{id:Id}{l:List Bool}(h:Ow bE m id l){k:Int}(b:0<=k)(d:k<l.length):aA false 1 (.ptr id 0 k.toNat) m=some (B (l.getD k.toNat false)):=by have a:k.toNat<l.length:=(by omega);have:=h.ld x8k a (g:=false);rw[nS]at this;rw[this,fU,eJ a];rfl
def Ow.ldI{m:Mem}{id:Id}{l:List Int}(h:Ow intE m id l){k:Int}(b:0<=k)(d:k<l.length):aA false 1 (.ptr id 0 k.toNat) m=some (I (at0 l k.toNat)):=by have a:k.toNat<l.length:=(by omega);have:=h.ld fR a (g:=false);rw[nS]at this;rw[this,fD a];rfl
def BZ{id:Id}{n:Nat}{k:Int}(a:0<=k)(b:k<n):aR 1 (.sref id 0 0 n 1 true) (I k)=some (.ptr id 0 k.toNat):=by simpa using xuu (z:=1) (id:=id) a b
def Ow.st1{g:α->AV}(a:∀x,enc x=[g x]){m:Mem}{id:Id}{l:List α}(h:Ow enc m id l){k:Int}(e:0<=k)(f:k<l.length){x:α}(b:(g x).cells=[g x])(d:(g x).one=true) :
    (∀{R:Type} (K:Mem->Option R),aU 1 (.ptr id 0 k.toNat) (g x) m K=K (m.set id (.row ((l.set k.toNat x).flatMap enc) 0 false)))/\Ow enc (m.set id (.row ((l.set k.toNat x).flatMap enc) 0 false)) id (l.set k.toNat x):=by
 have:=h.st (z:=1) (λx=>by rw[a];rfl) (k:=k.toNat) (by omega) (x:=x) (v:=g x) (by rw[b,a]) (by rw[a];simp[d]);simpa using this
def GkF(ok:Id->Prop)(m:Mem)(a:AV)(l:List Int):Prop:=(a=nilS/\l=[])\/∃id d b,ok id/\a=.sref id d 0 l.length 1 true/\m.get id=some (.row (l.flatMap intE) d b)
def GkF.frame{ok:Id->Prop}{m m':Mem}{a:AV}{l:List Int}(h:GkF ok m a l)(d:∀id,ok id->m'.get id=m.get id):GkF ok m' a l:=by
 rcases h with h|⟨id,ver,b,h0,h1,h2⟩
 .exact Or.inl h
 .exact Or.inr ⟨id,ver,b,h0,h1,by rw[d _ h0];exact h2⟩
def BestI(f:Int->Int)(S:List Int)(i:Nat)(b:Int):Prop:=(b=-1/\∀j:Nat,j<i->(j:Int)∈S)\/((0<=b/\b<i)/\b∉S/\∀j:Nat,j<i->(j:Int)∉S->(j:Int)=b\/lx f b j)
def BestI.fin{f:Int->Int}{N:Nat}{k:Nat}{b:Int}(h:BestI f ((eG f N).take k) N b)(x:k<N):b=at0 (eG f N) k:=by
 have y:=ZA f N;have i:=y8 f N;have a:k<(eG f N).length:=(by omega);have l:=(InN.get (ord_rng (f:=f) (N:=N)) a);have m:=i.nodup;have d:at0 (eG f N) k∉(eG f N).take k:=λt=>by obtain⟨j,u,e⟩:=vB.mp t;rw[V8,fD a]at e;simp at u;exact x9i.mp m j k (by omega) a (by omega) e
 rcases h with ⟨r,n⟩|⟨r,n,w⟩
 .have:=n (at0 (eG f N) k).toNat (by omega);rw[I8 l.1]at this;exact absurd this d
 .have o:=w (at0 (eG f N) k).toNat (by omega) (by rw[I8 l.1];exact d);rw[I8 l.1]at o;rcases o with e|e
  .exact e.symm
  .have p:b∈eG f N:=(i.2 b).mpr r;rw[<-G8 k (eG f N),iF]at p;have g:=p.resolve_left n;rw[fX a,dW]at g;rcases g with e2|e2
   .rw[fD a];exact e2
   .have Z:=i.1;rw[<-G8 k (eG f N),fX a]at Z;have:=(vA.mp (V7.mp Z).2.1).1 b e2;rw[fD a]at e;exact(xdi _ _ this e).elim
def DoneI(f:Int->Int)(N k:Nat)(D:List Bool):Prop:=D.length=N/\∀i:Nat,i<N->D.getD i false=decide ((i:Int)∈(eG f N).take k)
def DoneI.next{f:Int->Int}{N k:Nat}{D:List Bool}(h:DoneI f N k D)(e:k<N):DoneI f N (k+1) (D.set (at0 (eG f N) k).toNat true):=by
 have g:=ZA f N;have a:k<(eG f N).length:=(by omega);have j:=InN.get (ord_rng (f:=f) (N:=N)) a;refine⟨by simp[h.1],λi d=>?_⟩;rw[mI a,<-fD a,fU,FU];have b:=h.2 i d;rw[fU]at b;by_cases c:(at0 (eG f N) k).toNat=i
 .rw[aF c,aF (by rw[h.1];omega)];have:(i:Int)=at0 (eG f N) k:=(by omega);simp[this]
 .rw[aB c,b];have:¬(i:Int)=at0 (eG f N) k:=(by omega);simp[this]
def xv:HL=[I 0,I 0]:=by kernel_rfl
def xk8(d:Nat){s p:AV}{P:List Pq}(Z:s.one=true/\aP s=true)(a:Sl Pq.c p P){x:Sp}(e:0<=x.p/\x.p<P.length)(m:Mem) :
    aI (aH (d+1)) CJ [.agg [s,p],.agg [I x.p,I x.s]] m=some (.tup [I (eR P x),I (dA P x)],m):=by
 refine eZ (by simp[Z.2,a.aP]) ?_ m;have f:=a.ixz Pq.len e.1 e.2;have b:=λm=>jF (m:=m) (enc:=Pq.c) Pq.len (by omega) (show x.p.toNat<P.length by omega)
 rw[<-JK (by omega)]at b;unfold eR dA;generalize cK P x.p=q at *
 simp only[Pq.c]at b;rw[x4b];unfold ij bA PG;by_cases c:x.s<0
 .simp[mem0,Z.1,a.one,f,b,d7,c];exact RetF.tup rfl rfl
 .simp[mem0,Z.1,a.one,f,b,d7,c];exact RetF.tup rfl rfl
def idY:Id:=(0,5,21)
def idS:Id:=(0,10,25)
structure WM (s p:AV) (st:RSt) (m:Mem):Prop where
 b4:m.get (0,0,4)=some (.row [s,p] 0 false)
 oY:Ow Sp.c m idY st.y
 oS:Ow bE m idS st.k
def WM.fr{s p:AV}{st:RSt}{m a:Mem}(h:WM s p st m)(e:∀j:Id,j=(0,0,4)\/j=idY\/j=idS->a.get j=m.get j):WM s p st a:=
 ⟨by rw[e _ (.inl rfl)];exact h.b4,h.oY.fr (e _ (.inr (.inl rfl))),h.oS.fr (e _ (.inr (.inr rfl)))⟩
def OutS(m:Mem)(a:AV)(l:List Sp):Prop:=Sl Sp.c a l\/∃id:Id,id.1=0/\id.2.2=85/\a=.sref id 0 0 l.length 2 true/\Ow Sp.c m id l
def OutS.elems{m:Mem}{a:AV}{l:List Sp}(h:OutS m a l):elems m.get 2 a=some (l.flatMap Sp.c,l.length):=by
 rcases h with h|⟨id,-,-,rfl,h⟩
 .exact h.elems Sp.len m.get
 .have b:=gG Sp.len l;unfold Go.Ix.elems;simp only
  unfold Ow at h;rw[h];simp only
  rw[aF ⟨trivial,trivial,by omega⟩,bC,dM (by omega)]
def OutS.frz{m:Mem}{a:AV}{l:List Sp}(h:OutS m a l)(k:Nat):∃b,Sl Sp.c b l/\Go.Ix.frz m.get (k+2) a=some b:=by
 rcases h with h|⟨id,-,-,rfl,h⟩
 .exact⟨a,h,kN _ k h.bB⟩
 .exact⟨_,Sl.lit l false,bi (k:=k) Sp.len Sp.bB h⟩
def xka:ye=[I 0,I 0]:=by kernel_rfl
def x0i:kJ prog AQ (.agg [I 1,I (-1)]) (I 0)=some (I 1):=by kernel_rfl
def x0h:kJ prog AQ (.agg [I 1,I (-1)]) (I 1)=some (I (-1)):=by kernel_rfl
def xk7(d:Nat){s p f:AV}{l:List Scene}{P:List Pq}{F:List Int}(Z:Sl Scene.c s l)(b:Sl Pq.c p P)(a:Ints f F)(v:Int)(m:Mem) :
    aI (aH (d+1)) CH [.agg [s,p],I v,f] m=some (.clo yA [.aE [f],.aE [s,p],.aE [I v]],m):=by
 refine eZ (by simp[Z.aP,b.aP,a.bB]) ?_ m;rw[x4a];unfold ig fC PF;simp[mem0,Z.one,b.one,a.one,a.cells];generalize e:Mem.new _ _ _=m1;have g:m1.get (0,2,5)=some (.row [f] 0 false):=(by rw[<-e];simp);have h:m1.get (0,0,3)=some (.row [s,p] 0 false):=(by rw[<-e];simp);have i:m1.get (0,1,4)=some (.row [I v] 0 false):=(by rw[<-e];simp);have j:Go.Ix.frz m1.get 5 (.ptr (0,2,5) 0 0)=some (.aE [f]):=xe6 g (kN _ 2 a.bB);have n:Go.Ix.frz m1.get 5 (.ptr (0,1,4) 0 0)=some (.aE [I v]):=xe6 i rfl;have o:Go.Ix.frz m1.get 5 (.ptr (0,0,3) 0 0)=some (.aE [s,p]):=(by rw[xe5 h];simp only[bC,eI,gX,kN m1.get 2 Z.bB,kN m1.get 2 b.bB];rfl);refine RetF.mk (a':=.clo yA [.aE [f],.aE [s,p],.aE [I v]]) ?_ rfl;show(([AV.ptr (0,2,5) 0 0,.ptr (0,0,3) 0 0,.ptr (0,1,4) 0 0].mapM (Go.Ix.frz m1.get 5)).map λl=>AV.clo _ l)=_;simp only[eI,gX,j,n,o];rfl
def xnd{F:List Int}{k:Nat}(a:k<F.length):qH (F.take (k+1))=qH (F.take k)++[⟨at0 F k,1⟩]++[⟨at0 F k,-1⟩]:=by unfold qH;rw[mI a,vC,fD a];simp
def x7t(d:Nat){y:FHs}{id:Id}{h:List AV->Mem->Option Mem}{s p f:AV}{l:List Scene}{P:List Pq}{F:List Int}(Z:Sl Scene.c s l)(hp:Sl Pq.c p P)(hf:Ints f F)(hF:F.length<=1000)(hr:∀i∈F,0<=i/\i<P.length)(hl:sQ y id=some h)(v:Int){H:Mem}(b:List Sp->Mem->Prop)(t:Mem->Prop)(Q:∀a m g,b a m->g.next=m.next->(∀i:Id,¬i.1=H.next->g.get i=m.get i)->b a g)(hy:∀a x m,jZ F x->eR P x=v->b a m->∃e,h [.agg [I x.p,I x.s],I (dA P x)] m=some e/\(mD e.get id=true/\b (a++[x]) e\/mD e.get id=false/\t e))(hn:∀a x m,jZ F x->eR P x≠v->b a m->b (a++[x]) m)(h0:∀m,m.next=H.next+1->(∀i:Id,m.get i=H.get i)->b [] m) :
    ∃g,aH (d+2) y yA [.yld id,.aE [f],.aE [s,p],.aE [I v]] H=some (.tup [],g)/\(b (qH F) g\/t g):=by
 rw[x39];unfold ie zA PC;generalize hu:H.next=u at *
 simp only[w6,dE,aG,hf.len jA];refine nH (N:=F.length) (σ:=Unit) (λn k _ m Y=>zV (aH (d+1)) y u n (.yld id) (.aE [s,p]) (.aE [I v]) f (I F.length) (I k) m Y) (λk _ m=>b (qH (F.take k)) m)
  (λr=>∃g,r=some (.tup [],g)/\(b (qH F) g\/t g)) ?_ ?_ NN 0 () _ _ (by omega) (by rw[dF];omega) (by simpa[qH]using h0 ⟨H.hp,u+1⟩ rfl (λ_=>rfl))
 .rintro n k-m Y J O next;have hk':(k:Int)<(F.length:Int):=(by omega);have ix:=hf.ix fR J;have ld:=λm=>nI (m:=m) J
  have A:at0 F k∈F:=(by rw[fD J];exact fG J);have hx:=hr _ A;have hsc:=xnd J;generalize at0 F k=i at *
  simp only[zV];unfold PD qy;simp only[bV,hk',bG,aT,aG,ix,ld,xka];rw[show cY [I 0,I 0] [(0,1,I 1),(1,1,I (-1))]=some (.agg [I 1,I (-1)]) by simp[cY,jC]];simp only[aG];have one:∀(sg:Int) (q:Int) (a:List Sp) (m:Mem) (Y R:Nat),(sg=1\/sg=-1)->q<2->0<=q->kJ prog AQ (.agg [I 1,I (-1)]) (I q)=some (I sg)->b a m ->
   (∀g X,b (a++[⟨i,sg⟩]) g->∃e,H5 (aH (d+1)) y u (zV (aH (d+1)) y u n) R (.yld id) (.aE [s,p]) (.aE [I v]) (I i) f (I F.length) (I k) (.agg [I 1,I (-1)]) (I (q+1)) g X=some (.tup [],e)/\(b (qH F) e\/t e)) ->
   ∃e,H5 (aH (d+1)) y u (zV (aH (d+1)) y u n) (R+1) (.yld id) (.aE [s,p]) (.aE [I v]) (I i) f (I F.length) (I k) (.agg [I 1,I (-1)]) (I q) m Y=some (.tup [],e)/\(b (qH F) e\/t e):=by
   intro sg q a m Y R hsg hq2 hq0 K hI2 go;have L:jZ F ⟨i,sg⟩:=⟨A,hsg⟩;have he:=λm=>xk8 d ⟨Z.one,Z.aP⟩ hp (x:=⟨i,sg⟩) hx m
   simp only[H5];unfold PE;simp only[bV,hq2,bG,aT,aG,K,xv];rw[show cY [I 0,I 0] [(0,1,I i),(1,1,I sg)]=some (.agg [I i,I sg]) by simp[cY,jC]];simp;generalize E:Mem.set _ _ _=w;have q9:w.get (u,Y+6,9)=some (.row [I i,I sg] 0 false):=(by rw[<-E];simp);have M:b a w:=Q a m w hI2 (by rw[<-E];rfl) λj hj=>by rw[<-E,Mem.cP,aB (by rintro rfl;exact hj rfl),Mem.dH,aB (by rintro rfl;exact hj rfl)]
   simp[he];rw[bQ];by_cases c:eR P ⟨i,sg⟩=v
   .obtain⟨e,W,C⟩:=hy a ⟨i,sg⟩ w L c M;have o:fL (aH (d+1)) y 2 (.yld id) [.agg [I i,I sg],I (dA P ⟨i,sg⟩)] w=some (B (mD e.get id),e):=by
     show(match sQ y id with
      |some h=>(h [.agg [I i,I sg],I (dA P ⟨i,sg⟩)] w).map λ(g:Mem)=>(B (mD g.get id),g)
      |none=>none)=_
     rw[hl];simp only
     rw[W];rfl
    rcases C with ⟨D,C⟩|⟨D,C⟩
    .rw[D]at o;simp[c,q9,o];exact go e _ C
    .rw[D]at o;simp[c,q9,o];exact .inr C
   .simp[c];exact go w _ (hn a ⟨i,sg⟩ w L c M)
  obtain⟨NM,hNM⟩:∃NM,NN=NM+1+1+1:=⟨NN-3,by have:=dF;omega⟩;rw[hNM];refine one 1 0 _ m _ _ (.inl rfl) (by omega) (by omega) x0i O λw fc1 W=>?_
  refine one (-1) 1 _ w _ _ (.inr rfl) (by omega) (by omega) x0h W λe fc2 C=>?_
  simp only[H5];unfold PE qz;simp(disch:=omega) [bQ];exact next () e _ (by rw[hsc];exact C)
 .rintro n-m Y O;rw[dM (bO _)]at O;simp only[zV];unfold PD;simp;exact .inl O
def x7u(d:Nat){hh:FHs}{id:Id}{h:List AV->Mem->Option Mem}{s p f:AV}{l:List Scene}{P:List Pq}{F:List Int}(Z:Sl Scene.c s l)(w:Sl Pq.c p P)(y:Ints f F)(A:F.length<=1000)(C:∀i∈F,0<=i/\i<P.length)(D:sQ hh id=some h)(v:Int){m0:Mem}(g:List Sp->Mem->Prop)(o:∀e m j,g e m->j.next=m.next->(∀i:Id,¬i.1=m0.next->j.get i=m.get i)->g e j)(E:∀e x m,jZ F x->eR P x=v->g e m->∃n,h [.agg [I x.p,I x.s],I (dA P x)] m=some n/\g (e++[x]) n)(H:∀e x m,jZ F x->eR P x≠v->g e m->g (e++[x]) m)(J:∀m,m.next=m0.next+1->(∀i:Id,m.get i=m0.get i)->g [] m)(r:id.2.2=0:=by rfl) :
    ∃j,aH (d+2) hh yA [.yld id,.aE [f],.aE [s,p],.aE [I v]] m0=some (.tup [],j)/\g (qH F) j:=by
 obtain⟨j,t,u⟩:=x7t d Z w y A C D v g (λ_=>False) o (λe x m a b c=>by
  obtain⟨n,t,u⟩:=E e x m a b c
  exact⟨n,t,.inl ⟨by unfold mD;rw[r];rfl,u⟩⟩) H J
 exact⟨j,t,u.resolve_right λx=>x⟩
end Go.Ix
namespace Go.Ix
variable{P:List Pq}{n:Nat}{F:List Int}
def x8n{l:List Int}{b v:Int}{x:Int}(a:0<=b)(d:b<l.length)(e:0<=v):at0 (l.set b.toNat x) v.toNat=if v=b then x else at0 l v.toNat:=by
 unfold at0;rw[fU,fU,FU];by_cases c:v=b
 .rw[aF c,c,aF rfl,aF (by omega)];rfl
 .rw[aB c,aB (by omega)]
def unk(K:List Bool):Nat:=(K.filter λb=>!b).length
def WZ:∀{K:List Bool} {k:Nat},k<K.length->K.getD k false=false->unk (K.set k true)+1=unk K
 |[],_,h,_=>by simp at h
 |b::r,0,_,a=>by simp at a;subst a;simp[unk]
 |b::r,k+1,h,a=>by have:=WZ (K:=r) (k:=k) (by simpa using h) (by simpa using a);unfold unk at this ⊢;rw[eo];cases b<;>simp<;>omega
def zt:∀{K L:List Bool},K.length=L.length->(∀k,k<K.length->K.getD k false=true->L.getD k false=true)->unk L<=unk K
 |[],[],_,_=>bO _
 |[],_::_,h,_=>by simp at h
 |_::_,[],h,_=>by simp at h
 |a::r,b::s,h,g=>by
  have e:=zt (K:=r) (L:=s) (by simpa using h) λk d=>by have:=g (k+1) (by simpa using d);simpa using this
  have f:=g 0 (by simp);simp only[xid]at f;unfold unk at e ⊢;cases a with
  |true=>rw[f rfl];exact e
  |false=>
   cases b
   .show(r.filter λb=>!b).length+1 ≥ (s.filter λb=>!b).length+1;omega
   .show(s.filter λb=>!b).length<=(r.filter λb=>!b).length+1;omega
structure DS (n:Nat) (φ:Int->Int) (O:List Int) (K:List Bool):Prop where
 lo:O.length=n
 lk:K.length=n
 kn:∀v:Int,0<=v->v<n->boA K v=true->at0 O v.toNat=φ v
def Un(n:Nat)(O:List Int)(K:List Bool)(a:Int):Prop:=∀v:Int,0<=v->v<n->v≠a->boA K v=false->at0 O v.toNat=0
def Sub(n:Nat)(K L:List Bool):Prop:=∀v:Int,0<=v->v<n->boA K v=true->boA L v=true
def Sub.unk{K L:List Bool}(h:Sub n K L)(b:K.length=n)(d:L.length=n):unk L<=unk K:=zt (by omega) λk a e=>by have:=h (k:Int) (by omega) (by omega) (by unfold boA;simpa using e);unfold boA at this;simpa using this
def Clo(P:List Pq)(F:List Int)(K L:List Bool):Prop:=∀x,jZ F x->boA K (eR P x)=false->boA L (eR P x)=true->boA L (dA P x)=true
def Cls(P:List Pq)(F:List Int)(K:List Bool):Prop:=∀x,jZ F x->boA K (eR P x)=true->boA K (dA P x)=true
def Clo.trans(b:∀p∈P,PqIn n p)(d:∀i∈F,0<=i/\i<P.length){K L M:List Bool}(h:Clo P F K L)(e:Clo P F L M)(Z:Sub n L M):Clo P F K M:=λx a f g=>by
 cases c:boA L (eR P x)with
 |true=>exact Z _ (uS b d a).2.1 (uS b d a).2.2 (h x a f c)
 |false=>exact e x a c g
def Cls.grow(b:∀p∈P,PqIn n p)(d:∀i∈F,0<=i/\i<P.length){K L:List Bool}(h:Cls P F K)(e:Clo P F K L)(Z:Sub n K L):Cls P F L:=λx a f=>by
 cases c:boA K (eR P x)with
 |true=>exact Z _ (uS b d a).2.1 (uS b d a).2.2 (h x a c)
 |false=>exact e x a c f
def Cls.walk{K:List Bool}(h:Cls P F K):∀{w:List Sp} {a b:Int},Wk P w a b->AllF F w->boA K a=true->boA K b=true
 |[],_,_,d,_,e=>by cases d;exact e
 |x::r,a,b,d,f,e=>Cls.walk h d.2 f.tail (h x f.head (by rw[d.1];exact e))
def xpa(b:∀p∈P,PqIn n p)(d:For n P F){K:List Bool}(h:Cls P F K){i:Nat}(e:i<n)(f:∀j:Nat,j<i->boA K j=true)(g:boA K i=false):at0 (joinsM (freshM n) (prs P F)) i=i:=by have m:=(Lab.fresh n).joins (oW b d.rng);obtain⟨t,u,o⟩:=m.ok i e;apply Classical.byContradiction;intro l;obtain⟨w,r,a⟩:=xd5 b d.rng (v:=(at0 (joinsM (freshM n) (prs P F)) i).toNat) (w:=i) (by omega) e (by unfold Sm;exact o);have:=h.walk r a (f _ (by omega));rw[g]at this;cases this
def mB(n:Nat)(φ:Int->Int):List Int:=(List.range n).map λ(v:Nat)=>φ v
def qT(n:Nat)(φ:Int->Int):(mB n φ).length=n:=by simp[mB]
def JN{φ:Int->Int}{v:Int}(a:0<=v)(b:v<n):at0 (mB n φ) v.toNat=φ v:=by rw[fD (by rw[qT];omega)];simp[mB];rw[Int.max_eq_left a]
def DS.all{φ:Int->Int}{O:List Int}{K:List Bool}(h:DS n φ O K)(b:∀j:Nat,j<n->boA K j=true):O=mB n φ:=by
 apply FY
 .rw[h.lo,qT]
 .intro i a e;have d:i<n:=(by rw[<-h.lo];exact a);have:=h.kn i (by omega) (by omega) (b i d);rw[hJ,fD a]at this;rw[this];simp[mB]
open Go.Proofs
def Clo.refl{P:List Pq}{F:List Int}{K:List Bool}:Clo P F K K:=λx _ b a=>by rw[b]at a;cases a
def idA:Id:=(0,7,14)
def idK:Id:=(0,12,19)
structure SM (s p f v:AV) (n:Nat) (O:List Int) (K:List Bool) (m:Mem):Prop where
 b2:m.get (0,0,2)=some (.row [s,p] 0 false)
 b3:m.get (0,1,3)=some (.row [f] 0 false)
 b5:m.get (0,13,5)=some (.row [.sref idA 0 0 n 1 true] 0 false)
 b6:m.get (0,14,6)=some (.row [.sref idK 0 0 n 1 true] 0 false)
 b7:m.get (0,19,7)=some (.row [v] 0 false)
 b8:m.get (0,21,8)=some (.row [.clo vX [.ptr (0,14,6) 0 0,.ptr (0,0,2) 0 0,.ptr (0,19,7) 0 0,.ptr (0,13,5) 0 0,.ptr (0,1,3) 0 0,.ptr (0,21,8) 0 0]] 0 false)
 oA:Ow intE m idA O
 oK:Ow bE m idK K
 nx:1<=m.next
def SM.fr{s p f v:AV}{n:Nat}{O:List Int}{K:List Bool}{m b:Mem}(h:SM s p f v n O K m)(d:1<=b.next)(a:∀j:Id,j.1=0->b.get j=m.get j):SM s p f v n O K b:=
 ⟨by rw[a _ rfl];exact h.b2,by rw[a _ rfl];exact h.b3,by rw[a _ rfl];exact h.b5,by rw[a _ rfl];exact h.b6,by rw[a _ rfl];exact h.b7,by rw[a _ rfl];exact h.b8,h.oA.fr (a _ rfl),h.oK.fr (a _ rfl),d⟩
def F6:List AV:=[.ptr (0,14,6) 0 0,.ptr (0,0,2) 0 0,.ptr (0,19,7) 0 0,.ptr (0,13,5) 0 0,.ptr (0,1,3) 0 0,.ptr (0,21,8) 0 0]
def MV(m a:Mem):Prop:=∀j:Id,1<=j.1->j.1<m.next->a.get j=m.get j
def x7o(d:Nat){s p f v:AV}{l:List Scene}{P:List Pq}{F ph:List Int}(Z:Sl Scene.c s l)(hp:Sl Pq.c p P)(hf:Ints f ph)(hv:Ints v F)(hl:l.length<=60)(hP:∀p∈P,PqIn l.length p)(hF:For l.length P F)(hph:ph.length=P.length){φ:Int->Int}(hpot:Pot l.length P F (λi=>at0 ph i.toNat) φ){M:Nat}(hM:∀i∈F,(at0 ph i.toNat).natAbs<=M)(hMb:M<=10000000000):∀(k:Nat) (hh:FHs) (a:Int) (m:Mem) (O:List Int) (K:List Bool),SM s p f v l.length O K m->DS l.length φ O K->(0<=a/\a<l.length)->boA K a=false->at0 O a.toNat=φ a->Un l.length O K a->unk K<=k ->
    ∃R n b,aH (d+3+k) hh vX (I a::F6) m=some (.tup [],R)/\SM s p f v l.length n b R/\DS l.length φ n b/\Un l.length n b a/\Sub l.length K b/\Clo P F K b/\boA b a=true/\m.next<=R.next/\MV m R:=by
 have hFl:=hF.len hP;intro k;induction k with
 |zero=>intro hh a m O K hS hD N hka _ _ hu;have X:=WZ (K:=K) (k:=a.toNat) (by rw[hD.lk];omega) hka;omega
 |succ k ih=>
  intro hh a m O K hS hD N hka hoa hun hu;suffices main:∀Q:O2->Prop,(∀R n b,SM s p f v l.length n b R->DS l.length φ n b->Un l.length n b a->Sub l.length K b->Clo P F K b->boA b a=true->m.next<=R.next->MV m R->Q (some (.tup [],R)))->Q (aH (d+3+(k+1)) hh vX (I a::F6) m)from
   main (λr=>∃R n b,r=some (.tup [],R)/\SM s p f v l.length n b R/\DS l.length φ n b/\Un l.length n b a/\Sub l.length K b/\Clo P F K b/\boA b a=true/\m.next<=R.next/\MV m R) λR n b X D h3 h4 h5 h6 h7 h8=>⟨R,n,b,rfl,X,D,h3,h4,h5,h6,h7,h8⟩
  intro Q hQ;rw[show d+3+(k+1)=(d+3+k)+1 by omega,x32];unfold F6 gu xft OQ;generalize hU:m.next=u;have hu1:1<=u:=(by rw[<-hU];exact hS.nx);simp only[jD,cz,dP,mT,vU,gD,bD];generalize hm1:Mem.new _ _ _=m1;have g7:m1.get (u,0,7)=some (.row [I a] 0 false):=(by rw[<-hm1];simp);have J:SM s p f v l.length O K m1:=hS.fr (by rw[<-hm1];show 1<=u+1;omega) λj hj=>by rw[<-hm1,Mem.dH,aB (by rintro rfl;simp only at hj;omega)];rfl
  have hm1n:m1.next=u+1:=(by rw[<-hm1];rfl);have hm1f:MV m m1:=λj X D=>by rw[<-hm1,Mem.dH,aB (by rintro rfl;rw[hU]at D;exact Nat.lt_irrefl _ D)];rfl
  have ixK:aR 1 (.sref idK 0 0 l.length 1 true) (I a)=some (.ptr idK 0 a.toNat):=BZ N.1 N.2;obtain⟨st1,st2⟩:=J.oK.st1 (g:=B) (λ_=>rfl) (k:=a) N.1 (by rw[hD.lk];exact N.2) (x:=true) rfl rfl;simp only[jB,J.b6,g7,T3,zQ,bD,bC,dE,aG,ixK,st1];generalize hm2:Mem.set _ _ _=m2 at st2;obtain⟨K1,hK1⟩:∃K1,K1=K.set a.toNat true:=⟨_,rfl⟩;rw[<-hK1]at st2;have o:∀j:Id,j≠idK->m2.get j=m1.get j:=λj hj=>by rw[<-hm2,Mem.cP,aB hj]
  have hS2:SM s p f v l.length O K1 m2:=⟨by rw[o _ (by simp[idK])];exact J.b2,by rw[o _ (by simp[idK])];exact J.b3,by rw[o _ (by simp[idK])];exact J.b5,by rw[o _ (by simp[idK])];exact J.b6,by rw[o _ (by simp[idK])];exact J.b7,by rw[o _ (by simp[idK])];exact J.b8,
   J.oA.fr (o _ (by simp[idK,idA])),st2,by rw[<-hm2];exact J.nx⟩
  have hm2n:m2.next=u+1:=(by rw[<-hm2];exact hm1n);have g7':m2.get (u,0,7)=some (.row [I a] 0 false):=(by rw[o _ (by unfold idK;simp only[ne_eq,bF,not_and];omega)];exact g7);have hkb:∀w:Int,0<=w->boA K1 w=if w=a then true else boA K w:=λw t=>by rw[hK1,U9 N.1 (by rw[hD.lk];exact N.2) t]
  have hu2:=WZ (K:=K) (k:=a.toNat) (by rw[hD.lk];omega) hka;rw[<-hK1]at hu2
  have hD1:DS l.length φ O K1:=⟨hD.lo,by rw[hK1];simp[hD.lk],λw E W t=>by
   rw[hkb w E]at t
   by_cases c:w=a
   .rw[c];exact hoa
   .rw[aB c]at t;exact hD.kn w E W t⟩
  have hUn1:Un l.length O K1 a:=λw E W hne t=>by rw[hkb w E,aB hne]at t;exact hun w E W hne t
  have hsub1:Sub l.length K K1:=λw E W t=>by
   rw[hkb w E];split
   .rfl
   .exact t
  have hfrom:=xk7 (d+2+k) Z hp hv a m2;rw[show d+2+k+1=d+3+k by omega]at hfrom;simp[g7',hS2.b2,hS2.b7,hfrom];unfold ql;simp only[tV];generalize hH:(λ(args:List AV) (m:Mem)=>bif Nat.beq args.length 2&&true then OR (aH (d+3+k)) hh m.next (.ptr (0,14,6) 0 0) (.ptr (0,13,5) 0 0) (.ptr (0,1,3) 0 0) (.ptr (0,21,8) 0 0) (.ptr (u,0,7) 0 0) (args.getD 0 U) (args.getD 1 U) ⟨m.hp,m.next+1⟩ 0 else none)=H;obtain⟨m3,hc,hI⟩:=x7u (d:=d+1+k) (hh:=((u,9,0),H)::hh) (id:=(u,9,0)) (h:=H) Z hp hv (by omega) hF.rng (by simp[sQ]) a (m0:=m2)
   (λpre m=>∃n b,SM s p f v l.length n b m/\DS l.length φ n b/\Un l.length n b a/\Sub l.length K1 b/\Clo P F K1 b/\(∀x∈pre,jZ F x/\(eR P x=a->boA b (dA P x)=true))/\u+1<m.next/\(∀j:Id,1<=j.1->j.1<u+1->m.get j=m2.get j))
   (λpre m R ⟨n,b,X,D,h3,h4,h5,h6,h7,h8⟩ hn hg=>⟨n,b,X.fr (by omega) (λj hj=>hg j (by omega)),D,h3,h4,h5,h6,by omega,λj j1 j2=>by rw[hg j (by omega)];exact h8 j j1 j2⟩)
   (λpre x m hx hfx ⟨n,b,X,D,h3,h4,h5,h6,h7,h8⟩=>by
    suffices step:∀Q2:Option Mem->Prop,(∀mm O2 Y,SM s p f v l.length O2 Y mm->DS l.length φ O2 Y->Un l.length O2 Y a->Sub l.length K1 Y->Clo P F K1 Y->(∀y∈pre++[x],jZ F y/\(eR P y=a->boA Y (dA P y)=true))->u+1<mm.next->(∀j:Id,1<=j.1->j.1<u+1->mm.get j=m2.get j)->Q2 (some mm))->Q2 (H [.agg [I x.p,I x.s],I (dA P x)] m)from
     step (λr=>∃mm,r=some mm/\∃O2 Y,SM s p f v l.length O2 Y mm/\DS l.length φ O2 Y/\Un l.length O2 Y a/\Sub l.length K1 Y/\Clo P F K1 Y/\(∀y∈pre++[x],jZ F y/\(eR P y=a->boA Y (dA P y)=true))/\u+1<mm.next/\(∀j:Id,1<=j.1->j.1<u+1->mm.get j=m2.get j)) λmm O2 Y a1 a2 a3 a4 a5 a6 a7 a8=>⟨mm,rfl,O2,Y,a1,a2,a3,a4,a5,a6,a7,a8⟩
    intro Q2 hQ2
    obtain⟨-,t0,t1⟩:=uS hP hF.rng hx
    have hpx:=hF.rng x.p hx.1
    rw[<-hH]
    simp only[dN,gY,bR,Nat.reduceAdd,zQ,xF,bD,xid,List.getD_cons_succ]
    unfold OR qm
    generalize hU3:m.next=u3 at *
    simp only[xv]
    simp
    generalize hm4:Mem.set _ _ _=m4
    have hm4g:∀j:Id,¬j.1=u3->m4.get j=m.get j:=λj hj=>by
     rw[<-hm4,Mem.cP,aB (by rintro rfl;exact hj rfl),Mem.dH,aB (by rintro rfl;exact hj rfl)];rfl
    have q8:m4.get (u3,0,8)=some (.row [I x.p,I x.s] 0 false):=by rw[<-hm4];simp
    have hm4n:m4.next=u3+1:=by rw[<-hm4];rfl
    have C:SM s p f v l.length n b m4:=X.fr (by omega) λj hj=>hm4g j (by omega)
    have q7:m4.get (u,0,7)=some (.row [I a] 0 false):=by rw[hm4g _ (by simp only;omega),h8 _ (by simp only;omega) (by simp only;omega)];exact g7'
    have ixT:aR 1 (.sref idK 0 0 l.length 1 true) (I (dA P x))=some (.ptr idK 0 (dA P x).toNat):=BZ t0 t1
    have ldT:=C.oK.ldB (k:=dA P x) t0 (by rw[D.lk];exact t1)
    have ldT':aA false 1 (.ptr idK 0 (dA P x).toNat) m4=some (B (boA b (dA P x))):=ldT
    have hb:∀i,({hp:=m.hp,next:=u3+1}:Mem).get i=m.get i:=λ_=>rfl
    have q7m:m.get (u,0,7)=some (.row [I a] 0 false):=by rw[h8 _ (by simp only;omega) (by simp only;omega)];exact g7'
    have ixA:aR 1 (.sref idA 0 0 l.length 1 true) (I a)=some (.ptr idA 0 a.toNat):=BZ N.1 N.2
    have ixA2:aR 1 (.sref idA 0 0 l.length 1 true) (I (dA P x))=some (.ptr idA 0 (dA P x).toNat):=BZ t0 t1
    have ldA:=C.oA.ldI (k:=a) N.1 (by rw[D.lo];exact N.2)
    have hKa:boA b a=true:=h4 a N.1 N.2 (by rw[hkb a N.1,aF rfl])
    have hOa:at0 n a.toNat=φ a:=D.kn a N.1 N.2 hKa
    rw[hOa]at ldA
    have KD:=hf.ixI fR (k:=x.p) hpx.1 (by rw[hph];exact hpx.2)
    have ldP:=nI (m:=m4) (l:=ph) (k:=x.p.toNat) (by omega)
    cases hkt:boA b (dA P x)with
    |true=>
     rw[hkt]at ldT'
     simp[hb,X.b6,ixT,ldT']
     exact hQ2 m4 n b C D h3 h4 h5 (λy L=>by
      rcases iF.mp L with L|L
      .exact h6 y L
      .simp at L;subst L;exact⟨hx,λ_=>hkt⟩) (by omega) (λj j1 j2=>by rw[hm4g j (by omega)];exact h8 j j1 j2)
    |false=>
     rw[hkt]at ldT'
     have hstep:=hpot.st.step hx
     rw[hfx]at hstep
     have ba:=Pot.abs hP hF hpot hM (v:=a.toNat) (by omega)
     have bt:=Pot.abs hP hF hpot hM (v:=(dA P x).toNat) (by omega)
     rw[I8 N.1]at ba
     rw[I8 t0]at bt
     have hnM:l.length*M<=60*10000000000:=V6 hl hMb
     obtain⟨st1,st2⟩:=C.oA.st1 (g:=I) (λ_=>rfl) (k:=dA P x) t0 (by rw[D.lo];exact t1) (x:=φ (dA P x)) rfl rfl
     simp[-qM,hb,X.b6,X.b5,X.b3,q7m,ixT,ldT',ixA,ixA2,ldA,KD,ldP]
     have hw1:cG (φ (dA P x)-φ a)=φ (dA P x)-φ a:=bQ
     rw[hstep,hw1,bQ,show φ a+(φ (dA P x)-φ a)=φ (dA P x) by omega]
     simp only[st1]
     generalize hm5:Mem.set m4 _ _=m5 at st2 ⊢
     have A:∀j:Id,j≠idA->m5.get j=m4.get j:=λj hj=>by rw[<-hm5,Mem.cP,aB hj]
     have hm5n:m5.next=u3+1:=by rw[<-hm5];exact hm4n
     have hS5:SM s p f v l.length (n.set (dA P x).toNat (φ (dA P x))) b m5:=⟨by rw[A _ (by simp[idA])];exact C.b2,by rw[A _ (by simp[idA])];exact C.b3,by rw[A _ (by simp[idA])];exact C.b5,by rw[A _ (by simp[idA])];exact C.b6,by rw[A _ (by simp[idA])];exact C.b7,by rw[A _ (by simp[idA])];exact C.b8,st2,C.oK.fr (A _ (by simp[idK,idA])),by omega⟩
     have hog:∀w:Int,0<=w->at0 (n.set (dA P x).toNat (φ (dA P x))) w.toNat=if w=dA P x then φ (dA P x)else at0 n w.toNat:=λw t=>x8n t0 (by rw[D.lo];exact t1) t
     have hD5:DS l.length φ (n.set (dA P x).toNat (φ (dA P x))) b:=⟨by simp[D.lo],D.lk,λw E W t=>by
      rw[hog w E];split
      .rename_i e;rw[e]
      .exact D.kn w E W t⟩
     have hU5:Un l.length (n.set (dA P x).toNat (φ (dA P x))) b (dA P x):=λw E W hne t=>by
      rw[hog w E,aB hne]
      refine h3 w E W ?_ t
      rintro rfl
      rw[hKa]at t;cases t
     have hsu:=h4.unk (by rw[hK1];simp[hD.lk]) D.lk
     obtain⟨m6,O6,K6,e1,e2,e3,e4,e5,e6,e7,e8,e9⟩:=ih hh (dA P x) m5 _ b hS5 hD5 ⟨t0,t1⟩ hkt (by rw[hog _ t0,aF rfl]) hU5 (by omega)
     have hinv:fL (aH (d+3+k)) hh 2 (.clo vX F6) [I (dA P x)] m5=some (.tup [],m6):=e1
     unfold F6 at hinv
     simp[hS5.b8,hinv]
     refine hQ2 m6 O6 K6 e2 e3 (λw E W hne t=>?_) (λw E W t=>e5 w E W (h4 w E W t)) (h5.trans hP hF.rng e6 e5) (λy L=>?_) (by omega) (λj j1 j2=>?_)
     .by_cases c:w=dA P x
      .rw[c,e7]at t;cases t
      .exact e4 w E W c t
     .rcases iF.mp L with L|L
      .obtain⟨y1,y2⟩:=h6 y L
       exact⟨y1,λhfy=>e5 _ (uS hP hF.rng y1).2.1 (uS hP hF.rng y1).2.2 (y2 hfy)⟩
      .simp at L;subst L;exact⟨hx,λ_=>e7⟩
     .rw[e9 j j1 (by omega),A j (by unfold idA;rintro rfl;simp at j1),hm4g j (by omega)]
      exact h8 j j1 j2)
   (λpre x m hx hfx ⟨n,b,X,D,h3,h4,h5,h6,h7,h8⟩=>⟨n,b,X,D,h3,h4,h5,λy L=>by
    rcases iF.mp L with L|L
    .exact h6 y L
    .simp at L;subst L;exact⟨hx,λhfy=>absurd hfy hfx⟩,h7,h8⟩)
   (λm hn hg=>⟨O,K1,hS2.fr (by omega) (λj _=>hg j),hD1,hUn1,λ_ _ _ h=>h,Clo.refl,(λx hx=>by cases hx),by omega,λj _ _=>hg j⟩)
  obtain⟨n,b,X,D,h3,h4,h5,h6,h7,h8⟩:=hI;rw[show d+1+k+2=d+3+k by omega]at hc;simp only[hc,aG];refine hQ m3 n b X D h3 (λw E W t=>h4 w E W (hsub1 w E W t)) (λx hx x0 x1=>?_) (h4 a N.1 N.2 (by rw[hkb a N.1,aF rfl])) (by omega) (λj j1 j2=>?_)
  .by_cases c:eR P x=a
   .exact(h6 x (mem_stepsOf.mpr hx)).2 c
   .exact h5 x hx (by rw[hkb _ (uS hP hF.rng hx).1.1,aB c];exact x0) x1
  .rw[h8 j j1 (by omega),o j (by unfold idK;rintro rfl;simp at j1),hm1f j j1 j2]
def kE(a:List Int)(i:Int):Int:=at0 a i.toNat
def xj8:∃c,WD=[c]:=by have:WD.length=1:=(by kernel_rfl);exact List.length_eq_one_iff.mp this
def xj4:WB=[nilS]:=by kernel_rfl
def xj5:xx=[nilS]:=by kernel_rfl
def x82(d:Nat){s p f:AV}{l:List Scene}{P:List Pq}{A:List Int}(Z:Sl Scene.c s l)(hp:Sl Pq.c p P)(hf:Ints f A)(hR:Right7 l P)(hl:l.length<=12)(hld:l.length<=d+8)(hPl:P.length<=19)(hph:A.length=P.length){M:Nat}(hM:∀k,k<A.length->(at0 A k).natAbs<=M)(hMb:M<=10000000000) :
    RetF (λv=>Ints v (mB l.length (lK l.length P (jS (fW l P) l.length P) (kE A)))) (aH (d+12) [] z8 [.agg [s,p],f] mem0):=by
 have R:=hR.pr;obtain⟨F,H⟩:∃F,F=jS (fW l P) l.length P:=⟨_,rfl⟩;have W:For l.length P F:=(by rw[H];exact xdl R _);have t:=xb2 R (kE A) W;rw[<-H];generalize lK l.length P F (kE A)=φ at *
 rw[x33];unfold gv bA OO;obtain⟨zc,hzc⟩:=xj8;simp[mem0,Z.one,hp.one,hf.one,hf.cells,Z.len lF,xw1 (n:=l.length) (by omega),xw2 (n:=l.length) (by omega),xj4,xj5,tR,tS,aW,kX];generalize a:Mem.set _ (0,14,6) _=m1;have i2:m1.get (0,0,2)=some (.row [s,p] 0 false):=(by rw[<-a];simp);have i3:m1.get (0,1,3)=some (.row [f] 0 false):=(by rw[<-a];simp);have i5:m1.get (0,13,5)=some (.row [.sref idA 0 0 l.length 1 true] 0 false):=(by rw[<-a];simp[idA]);have i6:m1.get (0,14,6)=some (.row [.sref idK 0 0 l.length 1 true] 0 false):=(by rw[<-a];simp[idK]);have iA:Ow intE m1 idA (List.replicate l.length 0):=(by unfold Ow;rw[<-a];simp[idA]);have iK:Ow bE m1 idK (List.replicate l.length false):=(by unfold Ow;rw[<-a];simp[idK]);have in1:m1.next=1:=(by rw[<-a];rfl);obtain⟨v,hv,D⟩:=xky (d+4) Z hp hR hl hPl m1;rw[<-H]at hv;have hcl:∀(g:FuncId) (c:List AV),(AV.clo g c).cells=[AV.clo g c]:=λ_ _=>rfl
 have hco:∀(g:FuncId) (c:List AV),(AV.clo g c).one=true:=λ_ _=>rfl
 simp[D,hv.cells,hv.one,hzc,hcl,hco];generalize o:Mem.set _ (0,21,8) _=m2;have b:∀j:Id,j≠(0,19,7)->j≠(0,21,8)->m2.get j=m1.get j:=λj C L=>by rw[<-o,Mem.cP,aB L,Mem.dH,aB L,Mem.cP,aB C,Mem.dH,aB C]
 have e:SM s p f v l.length (List.replicate l.length 0) (List.replicate l.length false) m2:=⟨by rw[b _ (by simp) (by simp)];exact i2,by rw[b _ (by simp) (by simp)];exact i3,by rw[b _ (by simp) (by simp)];exact i5,by rw[b _ (by simp) (by simp)];exact i6,by rw[<-o];simp,by rw[<-o];simp,
  iA.fr (b _ (by simp[idA]) (by simp[idA])),iK.fr (b _ (by simp[idK]) (by simp[idK])),by rw[<-o];show 1<=m1.next;omega⟩
 have u:∀v:Int,boA (List.replicate l.length false) v=false:=λv=>by unfold boA;rw[fU,List.getElem?_replicate];split<;>rfl
 have E:∀v:Nat,at0 (List.replicate l.length 0) v=0:=λv=>by unfold at0;rw[fU,List.getElem?_replicate];split<;>rfl
 unfold qj;simp[e.b5];rw[show aM prog fA (.sref idA 0 0 l.length 1 true)=some (I l.length)from rfl];simp only[aG];refine nH (N:=l.length) (σ:=Unit) (λn k _ m Y=>W8 (aH (d+11)) [] 0 n (.ptr (0,13,5) 0 0) (.ptr (0,14,6) 0 0) (.ptr (0,21,8) 0 0) (I l.length) (I k) m Y)
  (λk _ m=>∃O K,SM s p f v l.length O K m/\DS l.length φ O K/\Un l.length O K (-1)/\Cls P F K/\∀j:Nat,j<k->boA K j=true) _ ?_ ?_ NN 0 () m2 _ (by omega) (by rw[dF];omega)
  ⟨_,_,e,⟨by simp,by simp,λv _ _ h=>by rw[u]at h;cases h⟩,λv _ _ _ _=>E _,(show Cls P F _ from λx _ h=>by rw[u]at h;cases h),λj h=>by omega⟩
 .rintro n k-m Y hk ⟨O,K,e,J,hU,hC,Q⟩ next;have hk':(k:Int)<(l.length:Int):=(by omega);have ixK:aR 1 (.sref idK 0 0 l.length 1 true) (I (k:Int))=some (.ptr idK 0 (k:Int).toNat):=BZ (by omega) hk';have ldK:=e.oK.ldB (k:=(k:Int)) (by omega) (by rw[J.lk];exact hk');have ldK':aA false 1 (.ptr idK 0 (k:Int).toNat) m=some (B (boA K k)):=ldK;simp only[W8];unfold OP qk;simp only[bV,hk',bG,aT,aG,jB,e.b6,T3,zQ,bD,bC,dE,ixK];rw[<-jB,ldK'];cases r:boA K k with
  |true=>
   unfold GG;simp(disch:=omega) [bQ];refine next () m _ ⟨O,K,e,J,hU,hC,λj hj=>?_⟩;by_cases c:j=k
   .rw[c];exact r
   .exact Q j (by omega)
  |false=>
   have hz:=t.z k hk (xpa R W hC hk Q r)
   obtain⟨m3,O3,K3,e1,e2,e3,e4,e5,e6,e7,e8,e9⟩:=x7o (d+8-l.length) Z hp hf hv hR.ll R W hph t (M:=M) (λi hi=>hM _ (by have:=W.rng i hi;omega)) hMb l.length [] (k:Int) m O K e J ⟨by omega,hk'⟩ r (by rw[hU _ (by omega) hk' (by omega) r,hz]) (λw w0 w1 hne D=>hU w w0 w1 (by omega) D) (by
    have C:unk K<=K.length:=FT _ _
    rw[J.lk]at C
    omega)
   rw[show d+8-l.length+3+l.length=d+11 by omega]at e1;have y:fL (aH (d+11)) [] 2 (.clo vX F6) [I (k:Int)] m=some (.tup [],m3):=e1;unfold F6 at y;simp only[gE,cF,aG,aT,e.b8,T3,zQ,bD,bC,dE,y];unfold GG;simp(disch:=omega) [bQ];refine next () m3 _ ⟨O3,K3,e2,e3,λw w0 w1 hne D=>?_,hC.grow R W.rng e6 e5,λj hj=>?_⟩
   .by_cases c:w=(k:Int)
    .rw[c,e7]at D;cases D
    .exact e4 w w0 w1 c D
   .by_cases c:j=k
    .rw[c];exact e7
    .exact e5 _ (by omega) (by omega) (Q j (by omega))
 .rintro n-m Y ⟨O,K,e,J,hU,hC,Q⟩;have:=J.all Q;subst this;simp only[W8];unfold OP qn;simp[e.b5];have X:=e.oA;unfold Ow at X;have C:=bi (k:=4) fR wI (x:=true) (l:=mB l.length φ) X;have L:Ints (.aN ((mB l.length φ).flatMap intE) (mB l.length φ).length false) (mB l.length φ):=Sl.lit _ false;rw[qT]at C L;exact RetF.mk C L
def yq(d:Nat){s p f:AV}{l:List Scene}{P:List Pq}{a:List Int}(Z:Sl Scene.c s l)(i:Sl Pq.c p P)(j:Ints f a)(n:Right7 l P)(o:l.length<=12)(b:l.length<=d+8)(e:P.length<=19)(g:a.length=P.length){M:Nat}(r:∀k,k<a.length->(at0 a k).natAbs<=M)(h:M<=10000000000)(m:Mem) :
    ∃v,Ints v (mB l.length (lK l.length P (jS (fW l P) l.length P) (kE a)))/\aI (aH (d+12)) z8 [.agg [s,p],f] m=some (v,m):=
 rI (by simp[Z.aP,i.aP,j.bB]) (x82 d Z i j n o b e g r h) m
def nZ(l:List Scene)(P:List Pq)(a:List Int):Int->Int:=lK l.length P (jS (fW l P) l.length P) (kE a)
def jX(l:List Scene)(P:List Pq)(d:List Int):List Int:=(List.range P.length).map λ(k:Nat)=>at0 d k-nZ l P d (cK P k).b+nZ l P d (cK P k).a
def EC(l:List Scene)(P:List Pq)(a:List Int):(jX l P a).length=P.length:=by simp[jX]
def xxj{l:List Scene}{P:List Pq}{d:List Int}{k:Nat}(h:k<P.length):at0 (jX l P d) k=at0 d k-nZ l P d (cK P k).b+nZ l P d (cK P k).a:=by rw[fD (by rw[EC];exact h)];simp[jX]
def xxi{l:List Scene}{P:List Pq}{ph:List Int}{k:Nat}(h:k<P.length):(jX l P ph).take (k+1)=(jX l P ph).take k++[at0 ph k-nZ l P ph (cK P k).b+nZ l P ph (cK P k).a]:=by rw[mI (by rw[EC];exact h),<-fD,xxj h]
def BV{l:List Scene}{P:List Pq}{a:List Int}(b:Right7 l P)(e:a.length=P.length){M:Nat}(f:∀k,k<a.length->(at0 a k).natAbs<=M){v:Int}(g:0<=v)(j:v<l.length):(nZ l P a v).natAbs<=l.length*M:=by have d:=xdl (P:=P) (n:=l.length) b.pr (fW l P);have:=Pot.abs b.pr d (xb2 b.pr (kE a) d) (M:=M) (λi h=>f _ (by have:=d.rng i h;omega)) (v:=v.toNat) (by omega);rw[I8 g]at this;exact this
def xb1{P:List Pq}{k:Nat}(h:k<P.length):cK P (k:Int)=P[k]:=JK (by simpa using h)
def x85(d:Nat){s p f:AV}{l:List Scene}{P:List Pq}{e:List Int}(Z:Sl Scene.c s l)(r:Sl Pq.c p P)(K:Ints f e)(t:Right7 l P)(L:l.length<=12)(y:l.length<=d+8)(A:P.length<=19)(g:e.length=P.length){M:Nat}(u:∀k,k<e.length->(at0 e k).natAbs<=M)(h:M<=10000000000) :
    RetF (λv=>Ints v (jX l P e)) (aH (d+13) [] N8 [.agg [s,p],f] mem0):=by
 rw[x34];unfold gw bA OT;have C:=yq d Z r K t L y A g u h ((⟨[],1⟩:Mem).new (0,0,2) (.row [s,p] 0 false));obtain⟨v,W,C⟩:=C;have hnM:l.length*M<=12*10000000000:=V6 L h;simp[mem0,Z.one,r.one,C];unfold qo;simp[r.len J9];refine nH (N:=P.length) (λn k a m Y=>W9 (aH (d+12)) [] 0 n f v a p (I P.length) (I k) m Y)
  (λk a m=>Gr 1 intE 0 39 m a ((jX l P e).take k)) _ ?_ ?_ NN 0 nilS _ _ (by omega) (by rw[dF];omega) (by simpa using Gr.nil)
 .rintro n k a m Y i w next;have hk':(k:Int)<(P.length:Int):=(by omega);have ip:=r.ix Pq.len i;have O:=λm=>jF (m:=m) (enc:=Pq.c) Pq.len (by omega) i
  have D:=K.ix fR (show k<e.length by omega);have E:=λm=>nI (m:=m) (show k<e.length by omega)
  have j:=xxi (l:=l) (P:=P) (ph:=e) i;obtain⟨J,q1,X⟩:=t.pr P[k] (fG i);rw[xb1 i]at j;generalize P[k]=q at *
  have ia:=W.ixI fR (k:=q.a) J (by rw[qT];omega);have ib:=W.ixI fR (k:=q.b) (by omega) (by rw[qT];omega);have Q:=λm=>nI (m:=m) (l:=mB l.length (nZ l P e)) (k:=q.a.toNat) (by rw[qT];omega)
  have R:=λm=>nI (m:=m) (l:=mB l.length (nZ l P e)) (k:=q.b.toNat) (by rw[qT];omega)
  rw[JN J (by omega)]at Q;rw[JN (by omega) X]at R;have ba:=BV t g u (v:=q.a) J (by omega);have bb:=BV t g u (v:=q.b) (by omega) X;have bp:=u k (by omega);unfold nZ at *
  simp only[Pq.c]at O;simp only[W9];unfold OU;simp[hk',ip,O,d7];generalize o:Mem.set _ _ _=m1;have g8:m1.get (0,Y+4,8)=some (.row [I q.a,I q.b] 0 false):=(by rw[<-o];simp);have F:Gr 1 intE 0 39 m1 a ((jX l P e).take k):=w.frame λs=>by rw[<-o];simp
  obtain⟨a2,m2,e1,e2,e3,-⟩:=F.app (s0:=Y+25) (bytes:=8) fR (by omega) (by unfold cH;simp[EC];omega) (at0 e k-lK l.length P (jS (fW l P) l.length P) (kE e) q.b+lK l.length P (jS (fW l P) l.length P) (kE e) q.a);simp[D,E,ia,ib,Q,R,mU];have H:cG (at0 e k-lK l.length P (jS (fW l P) l.length P) (kE e) q.b)=at0 e k-lK l.length P (jS (fW l P) l.length P) (kE e) q.b:=bQ;rw[H,bQ,bQ];rw[show ∀x:Int,elems m1.get 1 (.aN [I x] 1 true)=some (intE x,1)from λ_=>rfl,e1];exact next a2 m2 _ (by rw[j];exact e2)
 .rintro n a m Y w;rw[dM (by rw[EC];exact bO _)]at w;simp only[W9];unfold OU qp;simp;obtain⟨a',h1,h2⟩:=w.frzk (k:=4) fR wI;exact RetF.mk h2 h1
def xkv(d:Nat){s p f:AV}{l:List Scene}{P:List Pq}{a:List Int}(Z:Sl Scene.c s l)(i:Sl Pq.c p P)(j:Ints f a)(n:Right7 l P)(o:l.length<=12)(b:l.length<=d+8)(e:P.length<=19)(g:a.length=P.length){M:Nat}(r:∀k,k<a.length->(at0 a k).natAbs<=M)(h:M<=10000000000)(m:Mem) :
    ∃v,Ints v (jX l P a)/\aI (aH (d+13)) N8 [.agg [s,p],f] m=some (v,m):=
 rI (by simp[Z.aP,i.aP,j.bB]) (x85 d Z i j n o b e g r h) m
def StOK7(N:Nat)(w:List Sp):Prop:=∀x∈w,(0<=x.p/\x.p<N)/\(x.s=1\/x.s=-1)
def StOK7.abs{a:List Int}{M:Nat}(b:∀k,k<a.length->(at0 a k).natAbs<=M):∀{w:List Sp},StOK7 a.length w->(tN (kE a) w).natAbs<=w.length*M
 |[],_=>by simp[tN]
 |x::r,h=>by
  have g:=StOK7.abs b (w:=r) λy d=>h y (eE _ d)
  obtain⟨l,f⟩:=h x (eP ..);have i:=b x.p.toNat (by omega);have j:(x.s*kE a x.p).natAbs=(at0 a x.p.toNat).natAbs:=(by unfold kE;rcases f with e|e<;>rw[e]<;>simp);rw[tN,dN,lT];omega
def FI(N:Nat)(a:Int):List Int:=(freshM N).filter λi=>!decide (i=a)
def x8w(N:Nat):FI N (-1)=freshM N:=by unfold FI;rw[FX];intro x a;have:=fresh_mem.mp a;simp;omega
def xmc{n:Nat}{P:List Pq}:kB n P (FI P.length (-1))=joinsM (freshM n) P:=by unfold kB;rw[x8w,xuf]
def BY(x:Int):Bool:=!(wi x (-100000000) 100000000)
def AR(x:Int):Bool:=!(wi x 0 1000)
def rR(l:List Scene)(P:List Pq)(a b:List Int):Int:=
 bif !decide ((uH l P).2=0)then(uH l P).2 else bif !decide (a.length=P.length)||!decide (b.length=P.length)then 10 else bif a.any BY then 2 else bif b.any AR then 2 else 0
structure TaskOK (l:List Scene) (P:List Pq) (ph wt:List Int):Prop where
 r:Right7 l P
 lp:ph.length=P.length
 lw:wt.length=P.length
 hp:∀k,k<ph.length->-100000000<=at0 ph k/\at0 ph k<=100000000
 hw:∀k,k<wt.length->0<=at0 wt k/\at0 wt k<=1000
def xhk{q:Int->Bool}{a b:Int}(e:∀x,q x=!(wi x a b)){l:List Int}(h:l.any q=false):∀k,k<l.length->a<=at0 l k/\at0 l k<=b:=λk d=>by rw[GA]at h;have:=h l[k] (fG d);rw[e]at this;rw[fD d];exact xJ (by simpa using this)
def Y'{l:List Scene}{P:List Pq}{b d:List Int}(h:rR l P b d=0):TaskOK l P b d:=by
 unfold rR at h;by_cases a:(uH l P).2=0
 .by_cases e:b.length=P.length
  .by_cases f:d.length=P.length
   .cases g:b.any BY with
    |true=>rw[g]at h;simp[a,e,f]at h
    |false=>
     cases i:d.any AR with
     |true=>rw[g,i]at h;simp[a,e,f]at h
     |false=>exact⟨xwd a,e,f,xhk (λ_=>rfl) g,xhk (λ_=>rfl) i⟩
   .simp[a,f]at h
  .simp[a,e]at h
 .simp[a]at h
def xmu(d:Nat):V4 (aH (d+3)) (.clo O8 []) BY:=by intro Z x m;refine⟨m.next+1,?_⟩;show aH (d+3) Z O8 [I x] m=_;rw[x4g];unfold iq bW PO BY;simp[yr]
def xmt(d:Nat):V4 (aH (d+2)) (.clo O7 []) AR:=by intro Z x m;refine⟨m.next+1,?_⟩;show aH (d+2) Z O7 [I x] m=_;rw[x4f];unfold io bW PN AR;simp[J5]
def xl3(d:Nat){s p f g:AV}{l:List Scene}{P:List Pq}{a b:List Int}(Z:Sl Scene.c s l)(e:Sl Pq.c p P)(h:Ints f a)(i:Ints g b)(r:a.length<1000000)(t:b.length<1000000)(m:Mem) :
    aI (aH (d+8)) CL [.agg [s,p,f,g]] m=some (I (rR l P a b),m):=by
 refine eZ (by simp[Z.aP,e.aP,h.aP,i.aP]) ?_ m;rw[x4h];unfold ir bW PP;have u:=λm=>zm (d+5) h r (xmu (d+2)) rfl m
 have w:=λm=>zm (d+5) i t (xmt (d+3)) rfl m
 simp[mem0,Z.one,e.one,h.one,i.one,xks (d+1) Z e];unfold rR;by_cases o:(uH l P).2=0
 .simp[o,e.len J9,h.len jA];by_cases n:a.length=P.length
  .simp[n,i.len jA];by_cases j:b.length=P.length
   .simp[j,u];cases x:a.any BY with
    |true=>simp;exact RetF.st rfl rfl
    |false=>
     simp[w];cases y:b.any AR with
     |true=>simp;exact RetF.st rfl rfl
     |false=>simp;exact RetF.st rfl rfl
   .have e2':¬(b.length:Int)=(P.length:Int):=(by omega);simp[j,e2'];exact RetF.st rfl rfl
  .have e1':¬(a.length:Int)=(P.length:Int):=(by omega);simp[n,e1'];exact RetF.st rfl rfl
 .simp[o];exact RetF.st rfl rfl
def CI(m:Mem)(u:Nat)(a:AV)(l:List Int):Prop:=(l=[]/\a=.aN [] 0 true)\/(l≠[]/\a=.sref (u,3,5) 0 0 l.length 1 true/\Ow intE m (u,3,5) l)
def CI.one{m:Mem}{u:Nat}{a:AV}{l:List Int}(h:CI m u a l):a.cells=[a]/\a.one=true/\aP a=aP a:=by rcases h with ⟨-,rfl⟩|⟨-,rfl,-⟩<;>exact⟨rfl,rfl,rfl⟩
def CI.fr{m b:Mem}{u:Nat}{a:AV}{l:List Int}(h:CI m u a l)(e:b.get (u,3,5)=m.get (u,3,5)):CI b u a l:=by
 rcases h with h|⟨h0,h1,h2⟩
 .exact .inl h
 .exact .inr ⟨h0,h1,h2.fr e⟩
def CI.frz{m:Mem}{u:Nat}{a:AV}{l:List Int}(h:CI m u a l)(k:Nat):∃b,Ints b l/\Go.Ix.frz m.get (k+2) a=some b:=by
 rcases h with ⟨rfl,rfl⟩|⟨-,rfl,h⟩
 .exact⟨.aN [] 0 true,Sl.lit [] true,rfl⟩
 .exact⟨_,Sl.lit l false,bi (k:=k) fR wI h⟩
def xe7{d:Id->Option Ob}{a b c e f g h i:AV}{k:Nat}(j:Go.Ix.frz d (k+1) a=some f)(l:Go.Ix.frz d (k+1) b=some g)(m:Go.Ix.frz d (k+1) c=some h)(n:Go.Ix.frz d (k+1) e=some i):Go.Ix.frz d (k+2) (.agg [a,b,c,e])=some (.agg [f,g,h,i]):=by show([a,b,c,e].mapM (Go.Ix.frz d (k+1))).map AV.agg=_;simp only[eI,gX,j,l,m,n];rfl
structure Stp where
 fr:Int
 to:Int
 ed:Int
 sg:Int
 gain:Int
 room:Int
def s00:Stp:=⟨0,0,0,0,0,0⟩
def stpAt(S:List Stp)(i:Nat):Stp:=S.getD i s00
def xnc{S:List Stp}{i:Nat}(h:i<S.length):stpAt S i=S[i]:=by unfold stpAt;rw[fU,eJ h];rfl
structure SOK (J:Int) (n:Nat) (S:List Stp):Prop where
 ok:∀i,i<S.length->(0<=(stpAt S i).fr/\(stpAt S i).fr<n)/\(0<=(stpAt S i).to/\(stpAt S i).to<n)/\(stpAt S i).fr≠(stpAt S i).to/\(-J<=(stpAt S i).gain/\(stpAt S i).gain<=J)
structure BF where
 far:List Int
 by':List Int
 last:Int
def sT(len r i j:Nat):Nat:=if j<i then r*len+j+1 else r*len+j+1-len
structure BFI (J:Int) (n:Nat) (S:List Stp) (r i:Nat) (b:BF) (ta:Nat->Nat):Prop where
 fl:b.far.length=n
 bl:b.by'.length=n
 le:∀v,ta v<=r*S.length+i
 inj:∀u v,ta u=ta v->0<ta u->u=v
 bnd:∀v,0<=at0 b.far v/\at0 b.far v<=J*(r*S.length+i:Nat)
 bb:∀v,0<=at0 b.by' v/\(at0 b.by' v).toNat<=S.length
 arc:∀j,j<S.length->0<sT S.length r i j->at0 b.far (stpAt S j).fr.toNat+(stpAt S j).gain<=at0 b.far (stpAt S j).to.toNat\/sT S.length r i j<ta (stpAt S j).fr.toNat
 pre:∀v,v<n->0<ta v->(at0 b.by' v).toNat<S.length/\(stpAt S (at0 b.by' v).toNat).to=v /\
  at0 b.far v<=at0 b.far (stpAt S (at0 b.by' v).toNat).fr.toNat+(stpAt S (at0 b.by' v).toNat).gain /\
  (ta v<ta (stpAt S (at0 b.by' v).toNat).fr.toNat->at0 b.far v<at0 b.far (stpAt S (at0 b.by' v).toNat).fr.toNat+(stpAt S (at0 b.by' v).toNat).gain) /\
  (S.length<ta v->ta v<ta (stpAt S (at0 b.by' v).toNat).fr.toNat+S.length)
 la:b.last=-1\/∃v,v<n/\b.last=(v:Nat)/\r*S.length<ta v
def w9(S:List Stp)(a:List Int)(v:Nat):Nat:=(stpAt S (at0 a v).toNat).fr.toNat
def u6(S:List Stp)(a:List Int)(v:Nat):Stp:=stpAt S (at0 a v).toNat
def xx7{P:Nat->Prop}:∀d,P d->∃d,P d/\∀e,e<d->¬P e:=by
 intro d;induction d using Nat.strongRecOn with
 |_ d i=>
  intro h;by_cases c:∃e,e<d/\P e
  .obtain⟨e,f,g⟩:=c;exact i e f g
  .exact⟨d,h,λe a b=>c ⟨e,a,b⟩⟩
def BFI.step{J:Int}{n:Nat}{S:List Stp}(e:SOK J n S){r i:Nat}{b:BF}{a:Nat->Nat}(h:BFI J n S r i b a){v:Nat}(f:v<n)(g:0<a v) :
    u6 S b.by' v∈S/\(u6 S b.by' v).to=v/\(u6 S b.by' v).fr=(w9 S b.by' v:Nat)/\w9 S b.by' v≠v/\at0 b.far v<=at0 b.far (w9 S b.by' v)+(u6 S b.by' v).gain /\
     (a v<a (w9 S b.by' v)->at0 b.far v<at0 b.far (w9 S b.by' v)+(u6 S b.by' v).gain):=by
 obtain⟨d,l,m,o,p⟩:=h.pre v f g;have j:=e.ok _ d;refine⟨?_,l,?_,?_,m,o⟩
 .unfold u6;rw[xnc d];exact fG d
 .unfold u6 w9;omega
 .unfold w9;omega
inductive Reach (nb:Nat->List Int) (r:Nat):Nat->Prop
 |refl:Reach nb r r
 |step {a b:Nat}:Reach nb r a->(b:Int)∈nb a->Reach nb r b
def muN(P:Nat->Int)(v:Nat):Nat:=Classical.choose (xx7 (P:=λw=>P w=P v) v rfl)
def Rt(P:Nat->Int)(a:List Int)(v:Nat):Prop:=at0 a v=(muN P v:Nat)
instance (P:Nat->Int)(ls:List Int)(v:Nat):Decidable (Rt P ls v):=Int.instDecidableEq ..
def x8v{N:Nat}{but:Int}{k:Nat}(a:k<N):((freshM N).take (k+1)).filter (λi=>!decide (i=but))=((freshM N).take k).filter (λi=>!decide (i=but))++(if(k:Int)=but then[]else[(k:Int)]):=by rw[<-KN a,xA];congr 1;by_cases c:(k:Int)=but<;>simp[c]
def xmb(n:Nat)(P:List Pq)(F:List Int)(i:Int):kB n P (F++[i])=jG (kB n P F) (cK P i):=by unfold kB prs;rw[nU,xd4];rfl
def x84(d:Nat){s p:AV}{l:List Scene}{P:List Pq}(Z:Sl Scene.c s l)(w:Sl Pq.c p P)(t:Right7 l P)(e:Int) :
    RetF (λa=>Ints a (kB l.length P (FI P.length e))) (aH (d+2) [] O4 [.agg [s,p],I e] mem0):=by
 have K:=t.ll;have L:=t.pl;rw[x38];unfold ic bA PA;generalize g:(⟨[],1⟩:Mem).new (0,0,2) (.row [s,p] 0 false)=m1;have C:m1.get (0,0,2)=some (.row [s,p] 0 false):=(by rw[<-g];simp);have O:m1.next=1:=(by rw[<-g];rfl);obtain⟨a,M,X,F,hM,A⟩:=yx d (n:=l.length) (by omega) m1;have Q:M.get (0,0,2)=some (.row [s,p] 0 false):=(by rw[A _ (by show 0<m1.next;omega)];exact C);simp[mem0,Z.one,w.one,g,C,Z.len lF,X];unfold qv;simp[Q,w.len J9];rw[O]at F;refine nH (N:=P.length) (σ:=Unit) (λn k _ m Y=>X3 (aH (d+1)) [] 0 n (I e) a p (I P.length) (I k) m Y)
  (λk _ m=>1<m.next/\Gk 1 intE (λid=>id.1=1) m a (kB l.length P (((freshM P.length).take k).filter λi=>!decide (i=e)))) _ ?_ ?_ NN 0 () M _ (by omega) (by rw[dF];omega) ⟨by omega,by simpa[kB,prs,joinsM]using F⟩
 .rintro n k-m Y o ⟨J,u⟩ next;have hk':(k:Int)<(P.length:Int):=(by omega);have R:=w.ix Pq.len o;have D:=λm=>jF (m:=m) (enc:=Pq.c) Pq.len (by omega) o
  have f:=x8v (but:=e) o;have W:=t.pr P[k] (fG o);have y:=xb1 o
  have E:(kB l.length P (((freshM P.length).take k).filter λi=>!decide (i=e))).length=l.length:=(zu (n:=l.length) (λi H=>by
   have:=fresh_mem.mp (FQ (iX.mp H).1)
   exact⟨this,t.at this⟩)).len
  generalize P[k]=q at *
  simp only[Pq.c]at D;simp only[X3];unfold PB qw;simp[hk',R,D,d7];generalize h:Mem.set _ _ _=m2;have g7:m2.get (0,Y+1+3,7)=some (.row [I q.a,I q.b] 0 false):=(by rw[<-h];simp);have r:Gk 1 intE (λid=>id.1=1) m2 a (kB l.length P (((freshM P.length).take k).filter λi=>!decide (i=e))):=u.frame λj x=>by have hj':j.1=1:=x;rw[<-h,Mem.cP,aB (by rintro rfl;simp at hj'),Mem.dH,aB (by rintro rfl;simp at hj')]
  have n2:m2.next=m.next:=(by rw[<-h];rfl);by_cases c:(k:Int)=e
  .rw[aF c,iH]at f;obtain rfl:e=(k:Int):=c.symm;unfold GI;simp(disch:=omega) [bQ];exact next () m2 _ ⟨by omega,by rw[f];exact r⟩
  .rw[aB c]at f;obtain⟨m3,e1,e2,e3,e4⟩:=xgt d [] r (λj x=>by have hj':j.1=1:=x;omega) (p:=q) (by rw[E];exact W) (by rw[E];omega);simp[c,e1];unfold GI;simp(disch:=omega) [bQ];exact next () m3 _ ⟨by omega,by rw[f,xmb,y];exact e2⟩
 .rintro n-m Y ⟨J,u⟩;rw[dM (by simp[freshM])]at u;simp only[X3];unfold PB qx;simp;obtain⟨a',h1,h2⟩:=u.sl1 4;exact RetF.mk h2 h1
def xkp(d:Nat){s p:AV}{l:List Scene}{P:List Pq}(Z:Sl Scene.c s l)(e:Sl Pq.c p P)(f:Right7 l P)(b:Int)(m:Mem) :
    ∃a,Ints a (kB l.length P (FI P.length b))/\aI (aH (d+2)) O4 [.agg [s,p],I b] m=some (a,m):=
 rI (by simp[Z.aP,e.aP]) (x84 d Z e f b) m
def KC(l:List Scene)(P:List Pq):List Int:=joinsM (freshM l.length) P
def vT(l:List Scene)(P:List Pq)(a:List Int):List Int:=(freshM P.length).filter λi=>!decide (at0 (jX l P a) i.toNat=0)
def tO(l:List Scene)(P:List Pq)(a:List Int)(D i:Int):Int:=if at0 (KC l P) i.toNat=at0 (KC l P) D.toNat then nZ l P a i-nZ l P a D else 1000000000000
def qI(l:List Scene)(P:List Pq)(a:List Int)(D:Int):List Int:=(freshM l.length).map (tO l P a D)
def xnm{l:List Scene}{P:List Pq}{ph:List Int}{D:Int}{k:Nat}(a:k<l.length):(qI l P ph D).take (k+1)=(qI l P ph D).take k++[tO l P ph D k]:=by rw[mI (by simpa[qI,freshM]using a)];simp[qI,freshM]
def BC{l:List Scene}{P:List Pq}{a:List Int}{D:Int}:(qI l P a D).length=l.length:=by simp[qI,freshM]
def xuz{l:List Scene}{P:List Pq}{ph:List Int}{k:Nat}(a:k<P.length):((freshM P.length).take (k+1)).filter (λi=>!decide (at0 (jX l P ph) i.toNat=0))=((freshM P.length).take k).filter (λi=>!decide (at0 (jX l P ph) i.toNat=0))++(if at0 (jX l P ph) k=0 then[]else[(k:Int)]):=by rw[<-KN a,xA];congr 1;by_cases c:at0 (jX l P ph) k=0<;>simp[c]
def x1g{N k:Nat}(q:Int->Bool):(((freshM N).take k).filter q).length<=N:=by have a:=FT q ((freshM N).take k);have b:((freshM N).take k).length<=N:=(by simp[freshM];omega);omega
def lZ(l:List Scene)(P:List Pq)(a b:List Int)(D:Int):Int:=bif !decide (rR l P a b=0)then rR l P a b else bif !(wi D 0 ((l.length:Int)-1))then 6 else bif decide (0<(vT l P a).length)then 26 else 0
def xM(l:List Scene)(P:List Pq)(a b:List Int)(D:Int):List Int:=bif decide (lZ l P a b D=0)then qI l P a D else[]
def vK(l:List Scene)(P:List Pq)(a b:List Int)(D:Int):List Int:=bif decide (rR l P a b=0)&&wi D 0 ((l.length:Int)-1)then vT l P a else[]
def JO{a:List Int}(h:∀k,k<a.length->-100000000<=at0 a k/\at0 a k<=100000000):∀k,k<a.length->(at0 a k).natAbs<=100000000:=λk b=>by have:=h k b;omega
def x9a(d:Nat){s p f g:AV}{l:List Scene}{P:List Pq}{h t:List Int}(Z:Sl Scene.c s l)(C:Sl Pq.c p P)(L:Ints f h)(hg:Ints g t)(h1:h.length<1000000)(h2:t.length<1000000)(hfw:Right7 l P->l.length<=12/\l.length<=d+8/\P.length<=19)(D:Int) :
    RetF (λv=>∃a b,v=.tup [a,b,I (lZ l P h t D)]/\Ints a (xM l P h t D)/\Ints b (vK l P h t D)) (aH (d+14) [] CK [.agg [s,p,f,g],I D] mem0):=by
 have fin:∀(e:Int) (m:Mem),e≠0->lZ l P h t D=e->vK l P h t D=[]->RetF (λv=>∃a b,v=.tup [a,b,I (lZ l P h t D)]/\Ints a (xM l P h t D)/\Ints b (vK l P h t D)) (some (.tup [nilS,nilS,I e],m)):=λe m h0 he hB=>
  RetF.tup rfl ⟨nilS,nilS,by rw[he],Or.inl ⟨rfl,by unfold xM;rw[he];simp[h0]⟩,Or.inl ⟨rfl,hB⟩⟩
 rw[x4e];unfold im bA PM;simp[mem0,Z.one,C.one,L.one,hg.one,xl3 (d+5) Z C L hg h1 h2];by_cases y:rR l P h t=0;rotate_left
 .simp[y];exact fin _ _ y (by unfold lZ;simp[y]) (by unfold vK;simp[y])
 have A:=Y' y;have H:=A.r;obtain⟨hl,hld,W⟩:=hfw H;simp[y,xj7];rw[show cY [nilS,nilS] [(0,2,AV.agg [s,p])]=some (.agg [s,p]) by simp[cY,jC]];simp[Z.one,C.one,Z.len lF];rw[bQ];generalize J:Mem.set _ _ _=m1;have E:m1.get (0,0,2)=some (.row [s,p,f,g] 0 false):=(by rw[<-J];simp);have F:m1.get (0,12,8)=some (.row [s,p] 0 false):=(by rw[<-J];simp);have M:m1.next=1:=(by rw[<-J];rfl);simp[J5];cases K:wi D 0 ((l.length:Int)-1)with
 |false=>simp;exact fin 6 _ (by omega) (by unfold lZ;simp[y,K]) (by unfold vK;simp[K])
 |true=>
  obtain⟨d0,d1⟩:=xJ K;simp;unfold rh;obtain⟨ms,X,hmc⟩:=xkv d Z C L H hl hld W A.lp (JO A.hp) (by omega) m1;have hml:=EC l P h;simp[F,E,hmc,X.len jA];refine nH (N:=P.length) (λn k b m Y=>X4 (aH (d+13)) [] 0 n (I D) (.ptr (0,0,2) 0 0) (.ptr (0,12,8) 0 0) b ms (I (jX l P h).length) (I k) m Y)
   (λk b m=>(m.get (0,0,2)=some (.row [s,p,f,g] 0 false)/\m.get (0,12,8)=some (.row [s,p] 0 false)/\m.next=1)/\Gr 1 intE 0 48 m b (((freshM P.length).take k).filter λi=>!decide (at0 (jX l P h) i.toNat=0))) _ ?_ ?_ NN 0 nilS m1 _ (by omega) (by rw[dF];omega) ⟨⟨E,F,M⟩,by simpa using Gr.nil⟩
  .rintro n k b m Y hk ⟨⟨E,F,M⟩,w⟩ next;have hk':(k:Int)<((jX l P h).length:Int):=(by omega);have ix:=X.ix fR (show k<(jX l P h).length by omega);have ld:=λm=>nI (m:=m) (show k<(jX l P h).length by omega)
   have j:=xuz (l:=l) (ph:=h) hk;have hfl:=x1g (N:=P.length) (k:=k) λi=>!decide (at0 (jX l P h) i.toNat=0)
   simp only[X4];unfold PK ri;by_cases c:at0 (jX l P h) k=0
   .rw[aF c,iH]at j;simp only[bV,hk',bG,aT,aG,ix,ld,gC,c,cN,aV];unfold GJ;simp(disch:=omega) [bQ];exact next b m _ ⟨⟨E,F,M⟩,by rw[j];exact w⟩
   .rw[aB c]at j;obtain⟨b2,m2,e1,e2,e3,e4⟩:=w.app (s0:=Y+1+10) (bytes:=8) fR (by omega) (by unfold cH;omega) (k:Int);simp only[bV,hk',bG,aT,aG,ix,ld];simp[c,mU];rw[show ∀x:Int,elems m.get 1 (.aN [I x] 1 true)=some (intE x,1)from λ_=>rfl,e1];unfold GJ;simp(disch:=omega) [bQ];exact next b2 m2 _ ⟨⟨by rw[e4 _ (by simp)];exact E,by rw[e4 _ (by simp)];exact F,by omega⟩,by rw[j];exact e2⟩
  .rintro n b m Y ⟨⟨E,F,M⟩,w⟩;rw[dM (by simp[freshM])]at w;have hG':Gr 1 intE 0 48 m b (vT l P h):=w;simp only[X4];unfold PK rj;simp only[hml,bV,Int.lt_irrefl,bP,aV,aG,hG'.len jA,iC];by_cases c2:0<(vT l P h).length
   .have c2':(0:Int)<((vT l P h).length:Int):=(by omega);have O:lZ l P h t D=26:=(by unfold lZ;simp[y,K,c2]);simp[c2];obtain⟨b',hb',hfb⟩:=hG'.frzk (k:=3) fR wI;exact RetF.mk (xe3 rfl hfb xe8) ⟨nilS,b',by rw[O],Or.inl ⟨rfl,by unfold xM;simp[O]⟩,by unfold vK;simp[y,K];exact hb'⟩
   .have O:lZ l P h t D=0:=(by unfold lZ;simp[y,K,c2]);obtain⟨v,hv,hsc⟩:=yq (d+1) Z C L H hl (by omega) W A.lp (JO A.hp) (by omega) m;obtain⟨u,hu,hjc⟩:=xkp (d+11) Z C H (-1) m;rw[xmc]at hu;have c2':¬(0:Int)<((vT l P h).length:Int):=(by omega);simp[c2,F,E,hsc,hjc,Z.eM,C.eM,L.clean,cU,tR,M,Nat.blt];unfold rk;have hul:=((Lab.fresh l.length).joins H.pr).len;simp[hv.len jA,qT];refine nH (N:=l.length) (λn k o m Y=>X5 (aH (d+13)) [] 0 n (I D) v u o v (I l.length) (I k) m Y)
     (λk o m=>Gk 1 intE (λid=>id.1=0/\(id.2.2=84\/id.2.2=87)) m o ((qI l P h D).take k)) _ ?_ ?_ NN 0 nilS m _ (by omega) (by rw[dF];omega) (by simpa using Gk.nil)
    .rintro n k o m Y hk w next;have hk':(k:Int)<(l.length:Int):=(by omega);have ixv:=hv.ix fR (show k<(mB l.length (lK l.length P (jS (fW l P) l.length P) (kE h))).length by rw[qT];omega);have Q:=λm=>nI (m:=m) (show k<(mB l.length (lK l.length P (jS (fW l P) l.length P) (kE h))).length by rw[qT];omega)
     have ixd:=hv.ixI fR (k:=D) d0 (by rw[qT];omega);have R:=λm=>nI (m:=m) (show D.toNat<(mB l.length (lK l.length P (jS (fW l P) l.length P) (kE h))).length by rw[qT];omega)
     have ixu:=hu.ix fR (show k<(joinsM (freshM l.length) P).length by omega);have ldu:=λm=>nI (m:=m) (show k<(joinsM (freshM l.length) P).length by omega)
     have ixe:=hu.ixI fR (k:=D) d0 (by omega);have lde:=λm=>nI (m:=m) (show D.toNat<(joinsM (freshM l.length) P).length by omega)
     have gk:=JN (n:=l.length) (φ:=lK l.length P (jS (fW l P) l.length P) (kE h)) (v:=(k:Int)) (by omega) hk';rw[hJ]at gk;rw[gk]at Q;rw[JN d0 (by omega)]at R;have bk:=BV H A.lp (JO A.hp) (v:=(k:Int)) (by omega) hk';have bd:=BV H A.lp (JO A.hp) (v:=D) d0 (by omega);have j:=xnm (P:=P) (ph:=h) (D:=D) hk;have hol:((qI l P h D).take k).length<=12:=(by simp[BC];omega);unfold nZ at bk bd;simp only[X5];unfold PL rl;simp only[bV,hk',bG,aT,aG,ixv,Q,ixu,ldu,ixe,lde,iD];by_cases c:at0 (joinsM (freshM l.length) P) k=at0 (joinsM (freshM l.length) P) D.toNat
     .have hx:tO l P h D k=lK l.length P (jS (fW l P) l.length P) (kE h) k-lK l.length P (jS (fW l P) l.length P) (kE h) D:=(by unfold tO KC nZ;rw[hJ,aF c]);rw[hx]at j;obtain⟨o2,m2,e1,e2,-,-,e3,-⟩:=w.app (bytes:=8) (id0:=(0,Y+1+22,84)) fR (by omega) ⟨rfl,.inl rfl⟩ (by unfold cH;omega) (lK l.length P (jS (fW l P) l.length P) (kE h) k-lK l.length P (jS (fW l P) l.length P) (kE h) D);simp only[c,bG,aT,ixd,R,aG,nX,mU];rw[bQ];simp only[ZM];rw[show ∀x:Int,elems m.get 1 (.aN [I x] 1 true)=some (intE x,1)from λ_=>rfl,e1];unfold GK;simp(disch:=omega) [bQ];exact next o2 m2 _ (by rw[j];exact e2)
     .have hx:tO l P h D k=1000000000000:=(by unfold tO KC;rw[hJ,aB c]);rw[hx]at j;obtain⟨o2,m2,e1,e2,-,-,e3,-⟩:=w.app (bytes:=8) (id0:=(0,Y+1+16,87)) fR (by omega) ⟨rfl,.inr rfl⟩ (by unfold cH;omega) (1000000000000:Int);simp only[c,bP,aV,mU,ZM];rw[show ∀x:Int,elems m.get 1 (.aN [I x] 1 true)=some (intE x,1)from λ_=>rfl,e1];unfold GK;simp(disch:=omega) [bQ];exact next o2 m2 _ (by rw[j];exact e2)
    .rintro n o m Y w;rw[dM (by rw[BC];exact bO _)]at w;simp only[X5];unfold PL rm;simp;obtain⟨a',ha',hfa⟩:=w.sl1 3;have hO:vT l P h=[]:=rM.mp (by omega);exact RetF.mk (xe3 hfa rfl xe8) ⟨a',nilS,by rw[O],by unfold xM;simp[O];exact ha',Or.inl ⟨rfl,by unfold vK;simp[y,K,hO]⟩⟩
end Go.Ix
namespace Go.Ix
open Go.Proofs
def idxQ{α:Type}(q:α->Bool):Int->List α->Int
 |_,[]=>-1
 |k,x::r=>bif q x then k else idxQ q (k+1) r
def D3{α:Type}(q:α->Bool):∀(l:List α) (k:Int),(idxQ q k l=-1/\∀x∈l,q x=false)\/∃i:Nat,idxQ q k l=k+i/\∃h:i<l.length,q l[i]=true
 |[],k=>.inl ⟨rfl,λx a=>by cases a⟩
 |x::r,k=>by
  rw[idxQ];cases a:q x with
  |true=>exact .inr ⟨0,by simp,by simp,by simpa using a⟩
  |false=>
   rcases D3 q r (k+1)with ⟨h,d⟩|⟨i,h,g,f⟩
   .exact .inl ⟨h,λy b=>(dW.mp b).elim (λe=>e▸a) (d y)⟩
   .exact .inr ⟨i+1,by simp only[cond_false,h];omega,by simp;omega,by simpa using f⟩
def ah(z:Nat)(b:aJ)(Z:FHs)(d:AV->AV->AV->AV->Mem->Nat->O2)(i j l e:AV)(m:Mem)(Y:Nat):O2:=
 (cC e l).bind λn=>aK n ((aR z i e).bind λf=>(aA true z f m).bind λg=>(fL b Z 2 j [g] m).bind λa=>aK a.1 (some (e,a.2)) ((bJ e (I 1)).bind λh=>d i j l h a.2 (Y+11))) (some (I (-1),m))
def T4{α:Type}{d:α->List AV}{z:Nat}(w:∀x,(d x).length=z)(H:0<z){call:aJ}{Z:FHs}{q:α->Bool}{a fv:AV}{l:List α}(h:Sl d a l)(O:l.length<=1000000)(f:∀x∈l,∀m,∃o,fL call Z 2 fv [.agg (d x)] m=some (B (q x),o))(X:Nat->AV->AV->AV->AV->Mem->Nat->O2)(y:∀n A C D E m Y,X (n+1) A C D E m Y=ah z call Z (X n) A C D E m Y):∀(b:List α) (k j:Nat) (m:Mem) (Y:Nat),l.drop k=b->b.length<j ->
    ∃p,X j a fv (I l.length) (I k) m Y=some (I (idxQ q k b),p):=by
 intro b;induction b with
 |nil=>intro k j m Y t i;obtain⟨j,rfl⟩:=dQ i;have g:¬((k:Int)<(l.length:Int)):=(by have:=gZ.mp t;omega);rw[y];unfold ah;simp only[bV,g,bP,aG,aV,idxQ];exact⟨m,rfl⟩
 |cons e r N=>
  intro k j m Y t i;obtain⟨j,rfl⟩:=dQ i;obtain⟨g,K,u⟩:=gW t;have hk':(k:Int)<(l.length:Int):=(by omega);have ix:=h.ix w g;have ld:=λm=>jF (m:=m) w H g
  have F:=fG g;rw[K]at ld F;have J:=iJ k (by omega);obtain⟨o,L⟩:=f e F m;rw[y];unfold ah;simp only[bV,hk',bG,aT,aG,ix,ld,L,idxQ];cases P:q e with
  |true=>simp only[aT];exact⟨_,rfl⟩
  |false=>obtain⟨p,M⟩:=N (k+1) j o (Y+11) u (by simp at i;omega);simp only[aV,dY,aG,J,M,cond_false];exact⟨p,rfl⟩
def V3{l:List AV}(h:l.all AV.one=true):(AV.agg l).cells.all AV.one=true:=h
variable{ba pa A:AV}{W:List Bd}{J:List Pn}{C:List Pe}{E O:Int}
abbrev SC(E O:Int)(a b A:AV):List AV:=[I E,I O,a,b,A]
def nmQ{α:Type}(nm:α->ByteArray)(x:ByteArray)(y:α):Bool:=iB (nm y) x
def xzi(d:Nat){x:ByteArray}(h:Sl Pn.c pa J)(i:J.length<=1000):∃a,aH (d+2) [] CR [pa,.clo B5 [.aE [T x]]] mem0=some (I (idxQ (nmQ Pn.nm x) 0 J),a):=by
 obtain⟨a,r⟩:=T4 Pn.len (by omega) (q:=nmQ Pn.nm x) h (by omega) (call:=aH (d+1)) (Z:=[]) (fv:=.clo B5 [.aE [T x]]) (λe _ m=>by
  show ∃a,aH (d+1) [] B5 ([.agg e.c]++[.aE [T x]]) m=_
  rw[iY,iW,x6g]
  unfold mw bA TJ
  simp only[jD,V3 (show e.c.all AV.one=true from rfl),bD]
  generalize f:Mem.new _ _ _=M
  have g:M.get (m.next,0,2)=some (.row e.c 0 false):=by rw[<-f,Mem.kM];rfl
  have b:∀m,aA false 1 (.aE [T x]) m=some (T x):=λ_=>rfl
  simp only[cX,aG,bR,aQ g,bC,Pn.c,dE,b,xL]
  exact⟨_,rfl⟩) (ML (aH (d+1)) [] 0) (λ_ _ _ _ _ _ _=>rfl) J 0 NN ⟨[],1⟩ 4 rfl (by rw[dF];omega)
 refine⟨a,?_⟩;rw[x4r];unfold je bA QK sn;simp only[h.len qE,aG,mem0];exact r
def xzh(d:Nat){x:ByteArray}{sc:AV}{S:List Scene}(h:Sl Scene.c sc S)(i:S.length<=1000):∃a,aH (d+2) [] A8 [sc,.clo B4 [.aE [T x]]] mem0=some (I (idxQ (nmQ Scene.nm x) 0 S),a):=by
 obtain⟨a,r⟩:=T4 Scene.len (by omega) (q:=nmQ Scene.nm x) h (by omega) (call:=aH (d+1)) (Z:=[]) (fv:=.clo B4 [.aE [T x]]) (λe _ m=>by
  show ∃a,aH (d+1) [] B4 ([.agg e.c]++[.aE [T x]]) m=_
  rw[iY,iW,x6e]
  unfold mr bA TH
  simp only[jD,V3 (show e.c.all AV.one=true from rfl),bD]
  generalize f:Mem.new _ _ _=M
  have g:M.get (m.next,0,2)=some (.row e.c 0 false):=by rw[<-f,Mem.kM];rfl
  have b:∀m,aA false 1 (.aE [T x]) m=some (T x):=λ_=>rfl
  simp only[cX,aG,bR,aQ g,bC,Scene.c,dE,b,xL]
  exact⟨_,rfl⟩) (H9 (aH (d+1)) [] 0) (λ_ _ _ _ _ _ _=>rfl) S 0 NN ⟨[],1⟩ 4 rfl (by rw[dF];omega)
 refine⟨a,?_⟩;rw[xgj];unfold MX bA GO QI;simp only[h.len lF,aG,mem0];exact r
def xzp(d:Nat){x:ByteArray}(h:Sl Bd.c ba W)(i:W.length<=1000):∃a,aH (d+2) [] CT [ba,.clo B7 [.aE [T x]]] mem0=some (I (idxQ (nmQ Bd.nm x) 0 W),a):=by
 obtain⟨a,r⟩:=T4 Bd.len (by omega) (q:=nmQ Bd.nm x) h (by omega) (call:=aH (d+1)) (Z:=[]) (fv:=.clo B7 [.aE [T x]]) (λe _ m=>by
  show ∃a,aH (d+1) [] B7 ([.agg e.c]++[.aE [T x]]) m=_
  rw[iY,iW,x6n]
  unfold nj bA TR
  simp only[jD,V3 e.one,bD]
  generalize f:Mem.new _ _ _=M
  have g:M.get (m.next,0,2)=some (.row e.c 0 false):=by rw[<-f,Mem.kM];rfl
  have b:∀m,aA false 1 (.aE [T x]) m=some (T x):=λ_=>rfl
  simp only[cX,aG,bR,aQ g,bC,Bd.c,dE,b,xL]
  exact⟨_,rfl⟩) (MP (aH (d+1)) [] 0) (λ_ _ _ _ _ _ _=>rfl) W 0 NN ⟨[],1⟩ 4 rfl (by rw[dF];omega)
 refine⟨a,?_⟩;rw[x4v];unfold ji bA QO ss;simp only[h.len K5,aG,mem0];exact r
def dj{b:aJ}{f g:FuncId}{a r:AV}{x:ByteArray}{M d:Mem}{id:Id}(e:bB a=true)(i:M.get id=some (.row [T x] 0 false))(j:qS r=true)(h:b [] f [a,.clo g [.aE [T x]]] mem0=some (r,d)):eO b f [a,.clo g [.ptr id 0 0]] M=some (r,M):=by refine wS ?_ h j;have l:Go.Ix.frz M.get bI a=some a:=kN _ 4 e;have m:Go.Ix.frz M.get 5 (.ptr id 0 0)=some (.aE [T x]):=rG i rfl;have n:Go.Ix.frz M.get bI (.clo g [.ptr id 0 0])=some (.clo g [.aE [T x]]):=(by show([AV.ptr id 0 0].mapM (Go.Ix.frz M.get 5)).map (AV.clo g)=_;simp only[eI,gX,m];rfl);simp only[eI,gX,l,n];rfl
abbrev FB(E O:Int)(a b A sc d e f:AV):AV:=.agg [.aE (SC E O a b A),sc,d,e,f]
variable{sc pr lv cf:AV}
def xd0(d:Nat){x:ByteArray}(h:Sl Pn.c pa J)(f:J.length<=1000)(g:[sc,pr,lv,cf].all AV.one=true):∃i,aH (d+3) [] wB [FB E O ba pa A sc pr lv cf,T x] mem0=some (I (idxQ (nmQ Pn.nm x) 0 J),i):=by
 obtain⟨t,r⟩:=xzi d (x:=x) h f;rw[x6h];unfold mz bA TK;have a:(FB E O ba pa A sc pr lv cf).cells.all AV.one=true:=(by show((AV.aE (SC E O ba pa A)).one&&[sc,pr,lv,cf].all AV.one)=true;rw[g];rfl);have b:(T x).cells.all AV.one=true:=rfl;simp only[mem0,jD,a,b,bD];generalize e:Mem.new (Mem.new _ _ _) _ _=M;have j:M.get (0,0,2)=some (.row [.aE (SC E O ba pa A),sc,pr,lv,cf] 0 false):=(by rw[<-e,Mem.yT (by simp),Mem.kM];rfl);have l:M.get (0,1,3)=some (.row [T x] 0 false):=(by rw[<-e,Mem.kM];rfl);have n:bZ (.aE (SC E O ba pa A))=some (.aE (SC E O ba pa A)):=rfl;have o:aD 3 (.aE (SC E O ba pa A))=some (.aE [pa,A]):=rfl;have p:∀m,aA false 1 (.aE [pa,A]) m=some pa:=λ_=>rfl
 simp only[cX,aG,bR,aQ j,bC,dE,n,o,p,dj h.bB l rfl r];exact⟨_,rfl⟩
def xzo(d:Nat){x:ByteArray}(h:Sl Bd.c ba W)(f:W.length<=1000)(g:[sc,pr,lv,cf].all AV.one=true):∃i,aH (d+3) [] wD [FB E O ba pa A sc pr lv cf,T x] mem0=some (I (idxQ (nmQ Bd.nm x) 0 W),i):=by
 obtain⟨t,r⟩:=xzp d (x:=x) h f;rw[x6o];unfold nk bA TS;have a:(FB E O ba pa A sc pr lv cf).cells.all AV.one=true:=(by show((AV.aE (SC E O ba pa A)).one&&[sc,pr,lv,cf].all AV.one)=true;rw[g];rfl);have b:(T x).cells.all AV.one=true:=rfl;simp only[mem0,jD,a,b,bD];generalize e:Mem.new (Mem.new _ _ _) _ _=M;have j:M.get (0,0,2)=some (.row [.aE (SC E O ba pa A),sc,pr,lv,cf] 0 false):=(by rw[<-e,Mem.yT (by simp),Mem.kM];rfl);have l:M.get (0,1,3)=some (.row [T x] 0 false):=(by rw[<-e,Mem.kM];rfl);have n:bZ (.aE (SC E O ba pa A))=some (.aE (SC E O ba pa A)):=rfl;have o:aD 2 (.aE (SC E O ba pa A))=some (.aE [ba,pa,A]):=rfl;have p:∀m,aA false 1 (.aE [ba,pa,A]) m=some ba:=λ_=>rfl
 simp only[cX,aG,bR,aQ j,bC,dE,n,o,p,dj h.bB l rfl r];exact⟨_,rfl⟩
def xzg(d:Nat){x:ByteArray}{S:List Scene}{p:AV}(h:Sl Scene.c sc S)(f:S.length<=1000)(g:p.one=true)(i:[sc,pr,lv,cf].all AV.one=true):∃j,aH (d+3) [] wA [.agg [p,sc,pr,lv,cf],T x] mem0=some (I (idxQ (nmQ Scene.nm x) 0 S),j):=by obtain⟨o,n⟩:=xzh d (x:=x) h f;rw[x6f];unfold mu bA TI;have a:(AV.agg [p,sc,pr,lv,cf]).cells.all AV.one=true:=(by simpa[g]using i);have b:(T x).cells.all AV.one=true:=rfl;simp only[mem0,jD,a,b,bD];generalize e:Mem.new (Mem.new _ _ _) _ _=M;have l:M.get (0,0,2)=some (.row [p,sc,pr,lv,cf] 0 false):=(by rw[<-e,Mem.yT (by simp),Mem.kM];rfl);have m:M.get (0,1,3)=some (.row [T x] 0 false):=(by rw[<-e,Mem.kM];rfl);simp only[cX,aG,bR,aQ l,dR,bC,dE,dj h.bB m rfl n];exact⟨_,rfl⟩
structure OPr where
 pt:Int
 a:Int
 b:Int
 f:Int
def OPr.c(p:OPr):List AV:=[I p.pt,I p.a,I p.b,I p.f]
theorem OPr.len(p:OPr):p.c.length=4:=rfl
theorem OPr.bB(p:OPr):p.c.all aP=true:=rfl
def OPr.q(p:OPr):Pq:=⟨p.a,p.b⟩
def ofPt(i:Int)(S:List OPr):List OPr:=S.filter λp=>decide (p.pt=i)
def on10(n:Nat):List Int:=List.replicate n 1
def xu2(k:Nat):on10 (k+1)=on10 k++[1]:=List.replicate_succ'
def sX(D:Int)(p:OPr):Int:=if D<0\/p.a<D then p.a else D
def kP(Q:List OPr):Int:=Q.foldl sX (-1)
def xv2{S:List OPr}{i:Int}{k:Nat}(a:k<S.length):ofPt i (S.take (k+1))=ofPt i (S.take k)++(if S[k].pt=i then[S[k]]else[]):=by unfold ofPt;rw[mI a,xA];congr 1;by_cases c:S[k].pt=i<;>simp[c]
def xcm(S:List OPr)(i:Int):(ofPt i S).length<=S.length:=FT _ _
def vJ:prog.underlying mW=some (.slice HU):=by kernel_rfl
def ya:pX=[I 0,I 0,I 0,I 0]:=by kernel_rfl
def xw:AL=[nilS,nilS,nilS,nilS]:=by kernel_rfl
def xj2:yd=[nilS,nilS]:=by kernel_rfl
def xw7{p q:Int}{id:Id}{m:Mem}{R:Type}{k:AV->Mem->Option R}:cQ [I 0,I 0] [(0,2,.agg [I p,I q])] 1 2 id m k=k (.aN [I p,I q] 1 true) m:=by simp[cQ,jC,eN,rL,eM,AV.one,Value.oneCell']
def x75{p q:Int}:cY [I 0,I 0] [(0,1,I p),(1,1,I q)]=some (.agg [I p,I q]):=by simp[cY,jC]
theorem x17{p q:Int}(a:Id->Option Ob):elems a 2 (.aN [I p,I q] 1 true)=some (Pq.c ⟨p,q⟩,1):=rfl
theorem x15{x:Int}(a:Id->Option Ob):elems a 1 (.aN [I x] 1 true)=some (intE x,1):=rfl
abbrev okT10(t:Nat)(id:Id):Prop:=id.1=0/\id.2.2=t
def Gk.apart{α:Type}{z:Nat}{n:α->List AV}{t:Nat}{m:Mem}{a:AV}{l:List α}(h:Gk z n (okT10 t) m a l)(f:Id)(A:f.2.2=t)(x:Int){r w:List Id}(b:∀i∈r++w,i.2.2≠t):aW (tX (.aN [I x] 1 true),tA f a) (some r,some w)=true:=by
 have g:∀id:Id,id.2.2=t->aW (some [],some [id]) (some r,some w)=true:=λid d=>by
  have E:r.contains id=false:=(by rw[kI,ne_eq,ff];exact λo=>b id (zT _ o) d);have u:w.contains id=false:=(by rw[kI,ne_eq,ff];exact λo=>b id (MA _ o) d);have C:r.all (λi=>!([id].contains i))=true:=by
   rw[dJ];intro i p;have:i≠id:=λe=>b i (zT _ p) (e▸d)
   simp[this]
  unfold aW kX;split
  .rfl
  .rfl
  .rename_i j y;simp only[bF,bN]at j y;obtain⟨rfl,rfl⟩:=j;obtain⟨rfl,rfl⟩:=y;have F:w.all (λi=>!([id].contains i))=true:=by
    rw[dJ];intro i p;have:i≠id:=λe=>b i (MA _ p) (e▸d)
    simp[this]
   simp only[mT,dP,u,C,cF,gD]
  .rename_i j;exact absurd rfl (j _ _ _ _ rfl)
 rcases h with ⟨rfl,-⟩|⟨id,D,⟨-,u⟩,rfl,-⟩
 .exact g f A
 .exact g id u
variable{ba pa A sc pr lv cf:AV}{E O:Int}
structure TkI (ba pa A sc pr lv cf:AV) (wv mg:Int) (S:List OPr) (i:Int) (k:Nat) (m:Mem):Prop where
 g2:m.get (0,0,2)=some (.row [.aE (SC wv mg ba pa A),sc,pr,lv,cf] 0 false)
 g4:m.get (0,1,4)=some (.row [nilS,nilS,nilS,nilS] 0 false)
 g6:∃p f g,m.get (0,8,6)=some (.row [sc,p,f,g] 0 false)/\Gk 2 Pq.c (okT10 36) m p ((ofPt i (S.take k)).map OPr.q)/\Gk 1 intE (okT10 44) m f ((ofPt i (S.take k)).map OPr.f)/\Gk 1 intE (okT10 48) m g (on10 (ofPt i (S.take k)).length)
def TkR(sc:AV)(Q:List OPr)(v:AV):Prop:=∃p f g,v=.tup [.agg [sc,p,f,g],I (kP Q)]/\Sl Pq.c p (Q.map OPr.q)/\Ints f (Q.map OPr.f)/\Ints g (on10 Q.length)
def x81(d:Nat){L:List Scene}{S:List OPr}(Z:Sl Scene.c sc L)(hp:Sl OPr.c pr S)(ho:lv.one=true/\cf.one=true)(hS:S.length<=1000)(i:Int) :
    RetF (TkR sc (ofPt i S)) (aH (d+1) [] DM [FB E O ba pa A sc pr lv cf,I i] mem0):=by
 rw[x6d];unfold mo bA TF;have ho1:(FB E O ba pa A sc pr lv cf).cells.all AV.one=true:=(by show((AV.aE (SC E O ba pa A)).one&&[sc,pr,lv,cf].all AV.one)=true;simp[Z.one,hp.one,ho.1,ho.2];rfl);have hb1:cY [nilS,nilS] [(0,1,sc)]=some (.agg [sc,nilS]):=(by simp[cY,jC,Z.cells]);have hb2:cY [nilS,nilS,nilS,nilS] [(0,2,.agg [sc,nilS])]=some (.agg [sc,nilS,nilS,nilS]):=(by simp[cY,jC]);simp only[mem0,jD,ho1,bD];simp[xw,xj2,hb1,hb2,Z.one];generalize X:Mem.set _ _ _=m1;have g2:m1.get (0,0,2)=some (.row [.aE (SC E O ba pa A),sc,pr,lv,cf] 0 false):=(by rw[<-X];simp);have g4:m1.get (0,1,4)=some (.row [nilS,nilS,nilS,nilS] 0 false):=(by rw[<-X];simp);have g6:m1.get (0,8,6)=some (.row [sc,nilS,nilS,nilS] 0 false):=(by rw[<-X];simp);unfold uk;simp[g2,hp.len vJ];refine nH (N:=S.length) (σ:=Int) (λn k D m Y=>I2 (aH d) [] 0 n (I i) (.ptr (0,1,4) 0 0) (.ptr (0,8,6) 0 0) (I D) pr (I S.length) (I k) m Y) (λk D m=>D=kP (ofPt i (S.take k))/\TkI ba pa A sc pr lv cf E O S i k m) _ ?_ ?_ NN 0 (-1) m1 _ (by omega) (by rw[dF];omega) ⟨rfl,g2,g4,nilS,nilS,nilS,g6,Gk.nil,Gk.nil,Gk.nil⟩
 .rintro n k D m Y hk ⟨hD,g2,g4,p,f,g,g6,e1,e2,e3⟩ next;have hk':(k:Int)<(S.length:Int):=(by omega);have ix:=hp.ix OPr.len hk;have ld:=λm=>jF (m:=m) (enc:=OPr.c) OPr.len (by omega) hk
  have o:=xv2 (i:=i) hk;have hle:(ofPt i (S.take k)).length<=S.length:=iQ (xcm _ _) (by rw[oH];omega);generalize S[k]=q at *
  have hw:cG ((k:Int)+1)=((k+1:Nat):Int):=(by rw[bQ];rfl);have J:∀D2 l fc2,D2=kP (ofPt i (S.take (k+1)))->TkI ba pa A sc pr lv cf E O S i (k+1) l->RetF (TkR sc (ofPt i S)) (AA (aH d) [] 0 (I2 (aH d) [] 0 n) (I i) (.ptr (0,1,4) 0 0) (.ptr (0,8,6) 0 0) (I D2) pr (I S.length) (I k) l fc2):=λD2 l fc2 t x=>by unfold AA;simp only[dY,aG,hw];exact next D2 l _ ⟨t,x⟩
  simp only[I2];unfold TG ul;simp[hk,ix,ld,ya,OPr.c];generalize M:Mem.set _ _ _=l;have h9:l.get (0,Y+1+2,9)=some (.row q.c 0 false):=(by rw[<-M];simp[OPr.c]);have y:∀j:Id,j.2.2≠9->l.get j=m.get j:=λj e=>by rw[<-M,Mem.cP,aB (by rintro rfl;simp at e),Mem.dH,aB (by rintro rfl;simp at e)]
  have k2:l.get (0,0,2)=some (.row [.aE (SC E O ba pa A),sc,pr,lv,cf] 0 false):=(by rw[y _ (by simp)];exact g2);have k4:l.get (0,1,4)=some (.row [nilS,nilS,nilS,nilS] 0 false):=(by rw[y _ (by simp)];exact g4);have k6:l.get (0,8,6)=some (.row [sc,p,f,g] 0 false):=(by rw[y _ (by simp)];exact g6);have i1:Gk 2 Pq.c (okT10 36) l p ((ofPt i (S.take k)).map OPr.q):=e1.frame λj e=>y _ (by have:=e.2;omega)
  have i2:Gk 1 intE (okT10 44) l f ((ofPt i (S.take k)).map OPr.f):=e2.frame λj e=>y _ (by have:=e.2;omega)
  have i3:Gk 1 intE (okT10 48) l g (on10 (ofPt i (S.take k)).length):=e3.frame λj e=>y _ (by have:=e.2;omega)
  by_cases c:q.pt=i;rotate_left
  .rw[aB c,iH]at o;simp[c];exact J D l _ (by rw[hD,o]) ⟨k2,k4,p,f,g,k6,by rw[o];exact i1,by rw[o];exact i2,by rw[o];exact i3⟩
  rw[aF c]at o;obtain⟨u,m3,a1,a2,a3,a4,a5,a6⟩:=i1.app (bytes:=16) (id0:=(0,Y+1+17,36)) Pq.len (by omega) ⟨rfl,rfl⟩ (by unfold cH;simp;omega) q.q;have s6:m3.get (0,8,6)=some (.row [sc,p,f,g] 0 false):=(by rw[a6 _ (by simp[okT10])];exact k6);have st1:oR 1 0 1 u (some (.row [sc,p,f,g] 0 false))=some (.row [sc,u,f,g] 0 false):=(by simp[a3,a4]);have l2:sH false 1 0 2 (some (.row [sc,u,f,g] 0 false))=some f:=rfl;generalize P:m3.set (0,8,6) (.row [sc,u,f,g] 0 false)=m4;have R:∀j:Id,j≠(0,8,6)->¬okT10 36 j->m4.get j=l.get j:=λj t x=>by rw[<-P,Mem.cP,aB t,a6 _ x]
  have q3:m3.get (0,Y+1+2,9)=some (.row q.c 0 false):=(by rw[a6 _ (by simp[okT10])];exact h9);have j2:Gk 1 intE (okT10 44) m4 f ((ofPt i (S.take k)).map OPr.f):=i2.frame λj e=>R _ (by rintro rfl;simp[okT10]at e) (by intro h;have t:=h.2;have x:=e.2;omega)
  obtain⟨Q,m5,b1,b2,b3,b4,b5,b6⟩:=j2.app (bytes:=8) (id0:=(0,Y+1+26,44)) fR (by omega) ⟨rfl,rfl⟩ (by unfold cH;simp;omega) q.f;have s5:m5.get (0,8,6)=some (.row [sc,u,f,g] 0 false):=(by rw[b6 _ (by simp[okT10]),<-P];simp);have l3:sH false 1 0 3 (some (.row [sc,u,f,g] 0 false))=some g:=rfl;have j3:Gk 1 intE (okT10 48) m5 g (on10 (ofPt i (S.take k)).length):=i3.frame λj e=>by rw[b6 _ (by intro h;have t:=h.2;have x:=e.2;omega),R _ (by rintro rfl;simp[okT10]at e) (by intro h;have t:=h.2;have x:=e.2;omega)]
  obtain⟨K,m6,c1,c2,c3,c4,c5,c6⟩:=j3.app (bytes:=8) (id0:=(0,Y+1+30,48)) fR (by omega) ⟨rfl,rfl⟩ (by unfold cH on10;simp;omega) 1;have s7:m6.get (0,8,6)=some (.row [sc,u,f,g] 0 false):=(by rw[c6 _ (by simp[okT10])];exact s5);have st2:oR 1 0 2 Q (some (.row [sc,u,f,g] 0 false))=some (.row [sc,u,Q,g] 0 false):=(by simp[b3,b4]);have st3:oR 1 0 3 K (some (.row [sc,u,Q,g] 0 false))=some (.row [sc,u,Q,K] 0 false):=(by simp[c3,c4]);generalize C:m6.set (0,8,6) (.row [sc,u,Q,g] 0 false)=m7;have s8:m7.get (0,8,6)=some (.row [sc,u,Q,g] 0 false):=(by rw[<-C];simp);generalize F:m7.set (0,8,6) (.row [sc,u,Q,K] 0 false)=m8;have W:∀j:Id,j≠(0,8,6)->¬okT10 36 j->¬okT10 44 j->¬okT10 48 j->m8.get j=l.get j:=λj t x h3 h4=>by rw[<-F,Mem.cP,aB t,<-C,Mem.cP,aB t,c6 _ h4,b6 _ h3,R _ t x]
  have q9:m8.get (0,Y+1+2,9)=some (.row q.c 0 false):=(by rw[W _ (by simp) (by simp[okT10]) (by simp[okT10]) (by simp[okT10])];exact h9);have n2:m8.get (0,0,2)=some (.row [.aE (SC E O ba pa A),sc,pr,lv,cf] 0 false):=(by rw[W _ (by simp) (by simp[okT10]) (by simp[okT10]) (by simp[okT10])];exact k2);have n4:m8.get (0,1,4)=some (.row [nilS,nilS,nilS,nilS] 0 false):=(by rw[W _ (by simp) (by simp[okT10]) (by simp[okT10]) (by simp[okT10])];exact k4);have hT:TkI ba pa A sc pr lv cf E O S i (k+1) m8:=by
   refine⟨n2,n4,u,Q,K,by rw[<-F];simp,?_,?_,?_⟩<;>rw[o]
   .rw[nU];exact a2.frame λj e=>by rw[<-F,Mem.cP,aB (by rintro rfl;simp[okT10]at e),<-C,Mem.cP,aB (by rintro rfl;simp[okT10]at e),c6 _ (by intro h;have t:=h.2;have x:=e.2;omega),b6 _ (by intro h;have t:=h.2;have x:=e.2;omega),<-P,Mem.cP,aB (by rintro rfl;simp[okT10]at e)]
   .rw[nU];exact b2.frame λj e=>by rw[<-F,Mem.cP,aB (by rintro rfl;simp[okT10]at e),<-C,Mem.cP,aB (by rintro rfl;simp[okT10]at e),c6 _ (by intro h;have t:=h.2;have x:=e.2;omega)]
   .rw[eA,MC,xu2];exact c2.frame λj e=>by rw[<-F,Mem.cP,aB (by rintro rfl;simp[okT10]at e),<-C,Mem.cP,aB (by rintro rfl;simp[okT10]at e)]
  have H:kP (ofPt i (S.take (k+1)))=sX D q:=(by rw[o,hD];unfold kP;rw[fa];rfl);have ap1:aW (tX (.aN [I q.f] 1 true),tA (0,Y+1+26,44) f) (tR (.ptr (0,8,6) 0 3))=true:=j2.apart (0,Y+1+26,44) rfl q.f (r:=[(0,8,6)]) (w:=[]) (by simp);have ap2:aW (tX (.aN [I q.f] 1 true),tA (0,Y+1+26,44) f) (some [],some [(0,Y+1+29,47)])=true:=j2.apart (0,Y+1+26,44) rfl q.f (by simp);have l3':sH false 1 0 3 (some (.row q.c 0 false))=some (I q.f):=rfl;have l1':sH false 1 0 1 (some (.row q.c 0 false))=some (I q.a):=rfl;have l1:sH false 1 0 1 (some (.row [sc,p,f,g] 0 false))=some p:=rfl;simp only[c,bG,cN,aV,g6,l1,aG,d7,x75,xw7,x17];rw[show Pq.c ⟨q.a,q.b⟩=q.q.c from rfl,a1];simp only[s6,st1,aG,l2,P,q3,l3',mU,ZM,x15,b1,s5,l3,c1,s7,st2,C,st3,F];simp only[ap1,ap2];simp[aW,kX,tR];have hin:sX D q=D\/sX D q=q.a:=(by unfold sX;split<;>simp);by_cases c7:D<0
  .have:sX D q=q.a:=(by unfold sX;simp[c7]);simp[c7,q9,OPr.c];exact J _ m8 _ (by rw[H,this]) hT
  .by_cases c8:q.a<D
   .have:sX D q=q.a:=(by unfold sX;simp[c8]);simp[c7,c8,q9,OPr.c];exact J _ m8 _ (by rw[H,this]) hT
   .have:sX D q=D:=(by unfold sX;simp[c7,c8]);simp[c7,c8,q9,OPr.c];exact J _ m8 _ (by rw[H,this]) hT
 .rintro n D m Y ⟨hD,g2,g4,p,f,g,g6,e1,e2,e3⟩;rw[dM (bO _)]at hD e1 e2 e3;have o1:p.one=true/\f.one=true/\g.one=true:=⟨e1.one.2,e2.one.2,e3.one.2⟩;simp only[I2];unfold TG um;simp[g6,g4,Z.one,o1.1,o1.2.1,o1.2.2,fO];generalize M:Mem.set m _ _=l;have hf:∀j:Id,j≠(0,1,4)->l.get j=m.get j:=λj e=>by rw[<-M,Mem.cP,aB e]
  obtain⟨p',t,f1⟩:=(e1.frame (m':=l) λj e=>hf _ (by rintro rfl;simp[okT10]at e)).frz (k:=2) Pq.len Pq.bB;obtain⟨f',x,f2⟩:=(e2.frame (m':=l) λj e=>hf _ (by rintro rfl;simp[okT10]at e)).frz (k:=2) fR wI;obtain⟨g',h3,f3⟩:=(e3.frame (m':=l) λj e=>hf _ (by rintro rfl;simp[okT10]at e)).frz (k:=2) fR wI;have f0:Go.Ix.frz l.get 4 sc=some sc:=kN _ 2 Z.bB;exact RetF.mk (x0t (xe7 (k:=3) f0 f1 f2 f3) rfl) ⟨p',f',g',by rw[hD],t,x,h3⟩
def WT(d:Nat)(a b c:Int)(m:Mem):aI (aH (d+1)) vY [I a,I b,I c] m=some (B (wi a b c),m):=by refine gA rfl (m':=⟨[],1⟩) ?_ rfl;rw[x5c];unfold ka fC RH wi;by_cases h:b<=a<;>by_cases e:a<=c<;>simp[h,e,mem0]
def xkm(d:Nat)(a b:Int)(m:Mem)(h:-9223372036854775807<=b/\b<=9223372036854775807):aI (aH (d+2)) Q3 [I a,I b] m=some (B (wi a (-b) b),m):=by refine gA rfl (m':=⟨[],1⟩) ?_ rfl;rw[x5d];unfold kb bA RI;simp(disch:=omega) [mem0,WT,bQ]
end Go.Ix
namespace Go.Ix
open Go.Proofs
variable{ba pa A sc pr lv cf:AV}{E O:Int}
def KA(L:List Scene)(Q:List OPr):Int:=lZ L (Q.map OPr.q) (Q.map OPr.f) (on10 Q.length) (kP Q)
def fQ(L:List Scene)(Q:List OPr):Int:=if kP Q<0 then 0 else if KA L Q=0 then 2 else 1
def fP(L:List Scene)(Q:List OPr):List Int:=if fQ L Q=2 then xM L (Q.map OPr.q) (Q.map OPr.f) (on10 Q.length) (kP Q)else[]
def yN(L:List Scene)(Q:List OPr):List Int:=if fQ L Q=1 then vK L (Q.map OPr.q) (Q.map OPr.f) (on10 Q.length) (kP Q)else[]
def eh(L:List Scene)(Q:List OPr)(v:AV):Prop:=∃p o,v=.agg [I (fQ L Q),p,o]/\Ints p (fP L Q)/\Ints o (yN L Q)
def AD:lE=[I 0,nilS,nilS]:=by kernel_rfl
def xu3(n:Nat):(on10 n).length=n:=by simp[on10]
def xho(d:Nat){L:List Scene}{S:List OPr}(Z:Sl Scene.c sc L)(u:Sl OPr.c pr S)(w:lv.one=true/\cf.one=true)(l:aP lv=true/\aP cf=true)(N:S.length<=1000)(i:Int)(C:L.length<=12/\L.length<=d+8/\(ofPt i S).length<=19) :
    RetF (eh L (ofPt i S)) (aH (d+15) [] B6 [FB E O ba pa A sc pr lv cf,I i] mem0):=by
 rw[x6j];unfold nf bA TM;have D:(FB E O ba pa A sc pr lv cf).cells.all AV.one=true:=(by show((AV.aE (SC E O ba pa A)).one&&[sc,pr,lv,cf].all AV.one)=true;simp[Z.one,u.one,w.1,w.2];rfl);have m:[FB E O ba pa A sc pr lv cf,I i].all bB=true:=(by show(([AV.aE (SC E O ba pa A),sc,pr,lv,cf].all aP)&&true)=true;simp[Z.aP,u.aP,l.1,l.2];rfl);simp only[mem0,jD,D,bD];generalize J:Mem.new _ _ _=m1;have P:m1.get (0,0,2)=some (.row [.aE (SC E O ba pa A),sc,pr,lv,cf] 0 false):=(by rw[<-J];simp);obtain⟨v,⟨p,f,g,rfl,e,h,j⟩,Q⟩:=rI m (x81 (d+13) (ba:=ba) (pa:=pa) (A:=A) (E:=E) (O:=O) Z u w N i) (m1.new (0,1,4) (.row [I 0,nilS,nilS] 0 false));simp[AD,P];rw[show AV.agg [AV.aE (SC E O ba pa A),sc,pr,lv,cf]=FB E O ba pa A sc pr lv cf from rfl,Q];simp[xw,Z.one,e.one,h.one,j.one];have n:((ofPt i S).map OPr.f).length<1000000:=(by rw[lU];omega);by_cases c:kP (ofPt i S)<0
 .have a:fQ L (ofPt i S)=0:=(by unfold fQ;rw[aF c]);have F:cY [I 0,nilS,nilS] [(0,1,I 0)]=some (.agg [I 0,nilS,nilS]):=(by simp[cY,jC]);simp[c,F,fO];exact RetF.st rfl ⟨nilS,nilS,by rw[a],Or.inl ⟨rfl,by unfold fP;rw[a];rfl⟩,Or.inl ⟨rfl,by unfold yN;rw[a];rfl⟩⟩
 .simp[c];generalize K:Mem.set _ _ _=m2;have M:m2.get (0,1,4)=some (.row [I 0,nilS,nilS] 0 false):=(by rw[<-K];simp);obtain⟨v,⟨x,y,rfl,r,t⟩,H⟩:=rI (by simp[Z.aP,e.aP,h.aP,j.aP]) (x9a d Z e h j n (by rw[xu3];omega) (λ_=>⟨C.1,C.2.1,by rw[lU];exact C.2.2⟩) (kP (ofPt i S))) m2;simp[H];by_cases o:KA L (ofPt i S)=0
  .have c2':lZ L ((ofPt i S).map OPr.q) ((ofPt i S).map OPr.f) (on10 (ofPt i S).length) (kP (ofPt i S))=0:=o;have a:fQ L (ofPt i S)=2:=(by unfold fQ;rw[aB c,aF o]);have b:cY [I 0,nilS,nilS] [(0,1,I 2),(1,1,x)]=some (.agg [I 2,x,nilS]):=(by simp[cY,jC,r.cells]);simp[c2',b,r.one,M,fO];exact RetF.st (by simp[r.aP]) ⟨x,nilS,by rw[a],by unfold fP;rw[a];exact r,Or.inl ⟨rfl,by unfold yN;rw[a];rfl⟩⟩
  .have c2':¬lZ L ((ofPt i S).map OPr.q) ((ofPt i S).map OPr.f) (on10 (ofPt i S).length) (kP (ofPt i S))=0:=o;have a:fQ L (ofPt i S)=1:=(by unfold fQ;rw[aB c,aB o]);have b:cY [I 0,nilS,nilS] [(0,1,I 1),(2,1,y)]=some (.agg [I 1,nilS,y]):=(by simp[cY,jC,t.cells]);simp[c2',b,t.one,M,fO];exact RetF.st (by simp[t.aP]) ⟨nilS,y,by rw[a],Or.inl ⟨rfl,by unfold fP;rw[a];rfl⟩,by unfold yN;rw[a];exact t⟩
def wG(l:List Int):Nat->Nat
 |0=>0
 |k+1=>if at0 l (k+1)=1000000000000 then wG l k else k+1
def mE(l:List Int):Nat:=wG l (l.length-1)
def ZT(l:List Int):∀k,wG l k<=k
 |0=>bO _
 |k+1=>by rw[wG];split;exact Nat.le_succ_of_le (ZT l k);exact bO _
def xkz(d:Nat){x:AV}{K:Int}{y:AV}{l:List Int}(b:Ints x l)(n:y.one=true/\aP y=true)(u:l.length<=1000)(m:Mem) :
    aI (aH (d+1)) DD [.agg [I K,x,y]] m=some (I (mE l:Nat),m):=by
 refine eZ (by simp[b.aP,n.2]) ?_ m;rw[x5j];unfold ki bW RQ tf;generalize a:(⟨[],1⟩:Mem).new (0,0,1) (.row [I K,x,y] 0 false)=m1;have o:m1.get (0,0,1)=some (.row [I K,x,y] 0 false):=(by rw[<-a];simp);simp[mem0,b.one,n.1,a,o,b.len jA];rw[bQ];have g:∀(k j:Nat) (Y:Nat),k<l.length->k<j->RetF (λv=>v=I (wG l k:Nat)) (I0 (aH d) [] 0 j (.ptr (0,0,1) 0 0) (I (k:Int)) m1 Y):=by
  intro k;induction k with
  |zero=>intro j Y e f;obtain⟨j,rfl⟩:∃i,j=i+1:=⟨j-1,by omega⟩;simp only[I0];unfold GT RR;simp;exact RetF.st rfl rfl
  |succ k t=>
   intro j Y e f;obtain⟨j,rfl⟩:∃i,j=i+1:=⟨j-1,by omega⟩;have ix:=b.ix fR e;have ld:=λm=>nI (m:=m) e
   have h:(0:Int)<((k+1:Nat):Int):=(by omega);have p:cG (((k+1:Nat):Int)-1)=(k:Int):=(by rw[bQ];omega);simp only[I0];unfold GT;simp only[iC,h,bG,aG,aT,cX,jB,o,T3,zQ,bD,bR,dR,bC,dE,ix];rw[ld];by_cases c:at0 l (k+1)=1000000000000
   .simp only[aG,gC,c,bG,cN,aV,nX,p];rw[wG,aF c];exact t j _ (by omega) (by omega)
   .simp only[aG,gC,c,bP,cF,aT];rw[wG,aB c];exact RetF.st rfl rfl
 by_cases h:l.length=0
 .obtain⟨j,f⟩:∃j,NN=j+1:=⟨NN-1,by rw[dF]⟩;have:((l.length:Int)-1)=-1:=(by omega);rw[f,this];simp only[I0];unfold GT RR;simp;have r:mE l=0:=(by unfold mE;rw[h];rfl);exact RetF.st rfl (by rw[r];rfl)
 .have:((l.length:Int)-1)=((l.length-1:Nat):Int):=(by omega);rw[this];exact g (l.length-1) NN _ (by omega) (by rw[dF];omega)
def xj3:WF=[I 0,I 0,I 0,I 0,I 0]:=by kernel_rfl
def xku(d:Nat){x y:AV}{K:Int}{l:List Int}(b:Ints x l)(h:y.one=true/\aP y=true)(j:[sc,pr,lv,cf].all AV.one=true)(e:[sc,pr,lv,cf].all aP=true){k:Nat}(i:k<l.length)(m:Mem) :
    aI (aH (d+1)) DN [FB E O ba pa A sc pr lv cf,.agg [I K,x,y],I (k:Int)] m=some (.agg [I 0,I O,I (at0 l k),I O,I E],m):=by
 refine eZ ?_ ?_ m
 .show(([AV.aE (SC E O ba pa A),sc,pr,lv,cf].all aP)&&(([I K,x,y].all aP)&&true))=true;rw[dP,e];simp[b.aP,h.2];rfl
 rw[x6i];unfold na fC TL;have f:(FB E O ba pa A sc pr lv cf).cells.all AV.one=true:=(by show((AV.aE (SC E O ba pa A)).one&&[sc,pr,lv,cf].all AV.one)=true;rw[j];rfl);have g:(AV.agg [I K,x,y]).cells.all AV.one=true:=(by simp[b.one,h.1]);simp only[mem0,jD,f,g,bD];generalize a:Mem.new _ _ _=m1;have n:m1.get (0,0,3)=some (.row [.aE (SC E O ba pa A),sc,pr,lv,cf] 0 false):=(by rw[<-a];simp);have o:m1.get (0,1,4)=some (.row [I K,x,y] 0 false):=(by rw[<-a];simp);have p:bZ (.aE (SC E O ba pa A))=some (.aE (SC E O ba pa A)):=rfl;have r:aD 1 (.aE (SC E O ba pa A))=some (.aE [I O,ba,pa,A]):=rfl;have t:∀m,aA false 1 (.aE [I O,ba,pa,A]) m=some (I O):=λ_=>rfl
 have u:aD 0 (.aE (SC E O ba pa A))=some (.aE (SC E O ba pa A)):=rfl;have w:∀m,aA false 1 (.aE (SC E O ba pa A)) m=some (I E):=λ_=>rfl
 have ix:=b.ix fR i;have ld:=λm=>nI (m:=m) i
 have C:cY [I 0,I 0,I 0,I 0,I 0] [(1,1,I O),(2,1,I (at0 l k)),(3,1,I O),(4,1,I E)]=some (.agg [I 0,I O,I (at0 l k),I O,I E]):=(by simp[cY,jC]);simp[xj3,n,o,p,r,t,u,w,ix,ld,C,fO];exact RetF.st rfl rfl
def E9(s O E a:Int):Int:=
 if 8192*a < -E*(s+2*O)\/-E*(s-2*O) < -(8192*a)then 2
 else if -(8192*a)<=-E*(s+2*O)/\-E*(s-2*O)<=8192*a then 0 else 1
def xkt(d:Nat){s O E:Int}(Z:-100000000<=s/\s<=100000000)(b:0<=O/\O<=2048)(e:1<=E/\E<=10000)(m:Mem) :
    aI (aH (d+3)) DB [.agg [I 0,I O,I s,I O,I E]] m=some (.tup [I (-E*(s+2*O)),I (-E*(s-2*O)),I 0],m):=by
 refine eZ rfl ?_ m;rw[x5e];unfold kc bW RJ;generalize a:(⟨[],1⟩:Mem).new (0,0,1) (.row [I 0,I O,I s,I O,I E] 0 false)=m1;have f:m1.get (0,0,1)=some (.row [I 0,I O,I s,I O,I E] 0 false):=(by rw[<-a];simp);have g:wi 0 (-100000000) 100000000=true:=(by decide);have h:wi s (-100000000) 100000000=true:=wi_iff.mpr Z;have i:wi O 0 2048=true:=wi_iff.mpr b;have j:wi E 1 10000=true:=wi_iff.mpr e;have w:(E*(s+2*O)).natAbs<=10000*100004096:=(by rw[xii];exact V6 (by omega) (by omega));have x:(E*(s-2*O)).natAbs<=10000*100004096:=(by rw[xii];exact V6 (by omega) (by omega));have y:-E*(s+2*O)=-(E*(s+2*O)):=Int.neg_mul _ _;have A:-E*(s-2*O)=-(E*(s-2*O)):=Int.neg_mul _ _;have l:cG (s-0)=s:=(by rw[bQ];omega);have n:cG (O+O)=2*O:=(by rw[bQ];omega);have o:cG (0-E)=-E:=(by rw[bQ];omega);have p:cG (s+2*O)=s+2*O:=bQ;have r:cG (s-2*O)=s-2*O:=bQ;have t:cG (-E*(s+2*O))=-E*(s+2*O):=bQ;have u:cG (-E*(s-2*O))=-E*(s-2*O):=bQ;simp only[mem0,jD,pM,dP,mT,vU,gD,bD,a];unfold sy GR tc;simp only[cX,jB,f,T3,zQ,bD,bR,dR,bC,dE,aG,xkm _ _ _ _ (show(-9223372036854775807:Int)<=100000000/\(100000000:Int)<=9223372036854775807 by omega),WT,g,h,i,j,gE,cN,dZ,gS,dX,cF,cW,cZ,aV,nX,dY,xa3,YC,l,n,o,p,r,t,u];exact RetF.tup rfl rfl
def xlu(d:Nat){s O E b:Int}(Z:-100000000<=s/\s<=100000000)(r:0<=O/\O<=2048)(t:1<=E/\E<=10000)(u:0<=b/\b<=1000000)(m:Mem) :
    aI (aH (d+4)) DC [.agg [I 0,I O,I s,I O,I E],I b] m=some (.tup [I (E9 s O E b),I 0],m):=by
 refine eZ rfl ?_ m;rw[x5f];unfold ke bA RK;have w:wi b 0 1000000000=true:=wi_iff.mpr ⟨u.1,by omega⟩;have x:cG (8192*b)=8192*b:=bQ;have y:cG (0-8192*b)=-(8192*b):=(by rw[bQ];omega);have e2':cG (-(8192*b))=-(8192*b):=bQ;have A:∀m:Mem,m.get (0,0,2)=some (.row [I 0,I O,I s,I O,I E] 0 false)->aA true 5 (.ptr (0,0,2) 0 0) m=some (.agg [I 0,I O,I s,I O,I E]):=λm h=>by rw[jB,h];rfl
 simp only[mem0,jD,pM,dP,mT,vU,gD,bD];generalize j:Mem.new _ _ _=m1;have C:m1.get (0,0,2)=some (.row [I 0,I O,I s,I O,I E] 0 false):=(by rw[<-j];simp);simp only[A _ C,aG,xkt d Z r t,kU,jU,jV,gC,bG,cN,aV,WT,w,gE,YC,x,iC,gR,dZ,xa3,y];have e:E9 s O E b=if 8192*b < -E*(s+2*O)\/-E*(s-2*O) < -(8192*b)then 2 else if -(8192*b)<=-E*(s+2*O)/\-E*(s-2*O)<=8192*b then 0 else 1:=rfl
 generalize -E*(s+2*O)=o at *
 generalize -E*(s-2*O)=p at *
 have fin:∀(n:Int) (m:Mem),E9 s O E b=n->RetF (λa=>a=.tup [I (E9 s O E b),I 0]) (some (.tup [I n,I 0],m)):=λn m h=>by rw[h];exact RetF.tup rfl rfl
 by_cases f:8192*b<o
 .simp[f];exact fin 2 _ (by rw[e,aF (.inl f)])
 .by_cases g:p < -(8192*b)
  .simp[f,g,e2'];exact fin 2 _ (by rw[e,aF (.inr g)])
  .by_cases i:-(8192*b)<=o
   .by_cases l:p<=8192*b
    .simp[f,g,i,l,e2'];exact fin 0 _ (by rw[e,aB (by omega),aF ⟨i,l⟩])
    .simp[f,g,i,l,e2'];exact fin 1 _ (by rw[e,aB (by omega),aB (by omega)])
   .simp[f,g,i,e2'];exact fin 1 _ (by rw[e,aB (by omega),aB (by omega)])
def xdt{l:List Int}:∀(k j:Nat),j<=k->at0 l j≠1000000000000->at0 l (wG l k)≠1000000000000
 |0,j,h,a=>by have:j=0:=(by omega);subst this;exact a
 |k+1,j,h,a=>by
  rw[wG];by_cases c:at0 l (k+1)=1000000000000
  .rw[aF c];have:j≠k+1:=λe=>a (e▸c)
   exact xdt k j (by omega) a
  .rw[aB c];exact c
def xhe{l:List Scene}{P:List Pq}{a:List Int}{D:Int}{v:Nat}(b:v<l.length):at0 (qI l P a D) v=tO l P a D v:=by rw[fD (by rw[BC];exact b)];simp[qI,freshM]
def xnl{l:List Scene}{P:List Pq}{a d:List Int}{D:Int}(h:lZ l P a d D=0):rR l P a d=0/\wi D 0 ((l.length:Int)-1)=true/\vT l P a=[]:=by
 unfold lZ at h;by_cases b:rR l P a d=0
 .cases e:wi D 0 ((l.length:Int)-1)with
  |false=>simp[b,e]at h
  |true=>
   by_cases f:0<(vT l P a).length
   .simp[b,e,f]at h
   .exact⟨b,rfl,rM.mp (by omega)⟩
 .simp[b]at h
def xxw{L:List Scene}{Q:List OPr}(h:fQ L Q=2)(F:L.length<=12)(t:∀p∈Q,p.f.natAbs<=400000):(fP L Q).length=L.length/\0<L.length/\-100000000<=at0 (fP L Q) (mE (fP L Q))/\at0 (fP L Q) (mE (fP L Q))<=100000000:=by
 have x:KA L Q=0:=by
  unfold fQ at h;by_cases c:kP Q<0
  .rw[aF c]at h;omega
  .rw[aB c]at h;by_cases o:KA L Q=0
   .exact o
   .rw[aB o]at h;omega
 have hE':lZ L (Q.map OPr.q) (Q.map OPr.f) (on10 Q.length) (kP Q)=0:=x;obtain⟨C,E,M⟩:=xnl hE';obtain⟨N,O⟩:=xJ E;have j:fP L Q=qI L (Q.map OPr.q) (Q.map OPr.f) (kP Q):=(by unfold fP;rw[aF h];unfold xM;rw[hE'];rfl);have y:=(Y' C).r;have l:0<L.length:=(by omega);have d:(fP L Q).length=L.length:=(by rw[j,BC]);have A:∀k,k<(Q.map OPr.f).length->(at0 (Q.map OPr.f) k).natAbs<=400000:=λk u=>by rw[fD u,G9];exact t _ (fG _)
 have b:=λ(v:Nat) (H:v<L.length)=>BV y (by simp) A (v:=(v:Int)) (by omega) (by omega);obtain⟨D,n⟩:∃D:Nat,kP Q=(D:Int):=⟨(kP Q).toNat,by omega⟩;have g:D<L.length:=(by omega);have i:mE (fP L Q)<L.length:=(by have:=ZT (fP L Q) ((fP L Q).length-1);unfold mE;omega);have m:at0 (fP L Q) D≠1000000000000:=(by rw[j,xhe g,n];unfold tO;rw[aF rfl];omega);have a:at0 (fP L Q) (mE (fP L Q))≠1000000000000:=xdt _ D (by omega) m;refine⟨d,l,?_⟩;have e:at0 (fP L Q) (mE (fP L Q))=tO L (Q.map OPr.q) (Q.map OPr.f) (D:Int) (mE (fP L Q):Nat):=by
  generalize mE (fP L Q)=v at *
  rw[j,xhe i,n]
 rw[e]at a ⊢;have J:=b D g;have K:=b _ i;unfold tO at a ⊢;split at a
 .rename_i w;rw[aF w];omega
 .exact absurd rfl a
end Go.Ix
namespace Go.Ix
open Go.Proofs
variable{ba pa A sc pr lv cf:AV}{E O:Int}{J:List Pn}
def selN(q:Nat->Bool)(J:List Pn)(k:Nat):List ByteArray:=((List.range k).filter q).map λj=>((J[j]?).map Pn.nm).getD ⟨#[]⟩
def XZ{q:Nat->Bool}{k:Nat}(a:k<J.length)(h:q k=true):selN q J (k+1)=selN q J k++[J[k].nm]:=by unfold selN;rw[rL,xA,nU];simp[h,a]
def tT{q:Nat->Bool}{k:Nat}(h:q k=false):selN q J (k+1)=selN q J k:=by unfold selN;rw[rL,xA,nU];simp[h]
def BK(q:Nat->Bool)(J:List Pn)(k:Nat):(selN q J k).length<=k:=by unfold selN;rw[lU];have:=FT q (List.range k);simpa using this
def rD(b:Bd)(J:List Pn)(j:Nat):Bool:=((J[j]?).map (D1 b)).getD false
def xen{b:Bd}{j:Nat}(h:j<J.length):rD b J j=D1 b J[j]:=by unfold rD;rw[eJ h];rfl
def EJ(L:List Scene)(S:List OPr)(j:Nat):Int:=fQ L (ofPt j S)
def cg(L:List Scene)(S:List OPr)(O E a:Int)(j:Nat):Int:=E9 (at0 (fP L (ofPt j S)) (mE (fP L (ofPt j S)))) O E a
def sureQ(L:List Scene)(S:List OPr)(O E:Int)(b:Bd)(J:List Pn)(j:Nat):Bool:=rD b J j&&(decide (EJ L S j=2)&&decide (cg L S O E b.th j=2))
def uM(L:List Scene)(S:List OPr)(O E:Int)(b:Bd)(J:List Pn)(j:Nat):Bool:=rD b J j&&(decide (EJ L S j=2)&&decide (cg L S O E b.th j=1))
def openQ(L:List Scene)(S:List OPr)(b:Bd)(J:List Pn)(j:Nat):Bool:=rD b J j&&decide (EJ L S j=1)
def blindQ(L:List Scene)(S:List OPr)(b:Bd)(J:List Pn)(j:Nat):Bool:=rD b J j&&decide (EJ L S j=0)
def cntJ(b:Bd)(J:List Pn)(k:Nat):Nat:=((List.range k).filter (rD b J)).length
def xf8{b:Bd}{k:Nat}:cntJ b J (k+1)=cntJ b J k+(if rD b J k=true then 1 else 0):=by unfold cntJ;rw[rL,xA,eA];by_cases c:rD b J k=true<;>simp[c]
def xf9(b:Bd)(J:List Pn)(k:Nat):cntJ b J k<=k:=by unfold cntJ;have:=FT (rD b J) (List.range k);simpa using this
def mayN(L:List Scene)(S:List OPr)(O E:Int)(b:Bd)(J:List Pn)(k:Nat):Bool:=(List.range k).any (uM L S O E b J)
def JZ{L:List Scene}{S:List OPr}{b:Bd}{k:Nat}:mayN L S O E b J (k+1)=(mayN L S O E b J k||uM L S O E b J k):=by unfold mayN;rw[rL,List.any_append];simp
abbrev okW(t:Nat)(id:Id):Prop:=1<=id.1/\id.2.2=t
def vH:prog.underlying iI=some (.slice bK):=by kernel_rfl
structure AI (ba pa A sc pr lv cf:AV) (wv mg:Int) (L:List Scene) (S:List OPr) (b:Bd) (pl:List Pn) (i:Int) (k:Nat) (m:Mem):Prop where
 g2:m.get (0,0,2)=some (.row [.aE (SC wv mg ba pa A),sc,pr,lv,cf] 0 false)
 g3:m.get (0,1,3)=some (.row [I i] 0 false)
 g4:m.get (0,2,4)=some (.row [I 0,nilS,nilS,nilS] 0 false)
 g5:∃s o l,m.get (0,3,5)=some (.row [I 0,s,o,l] 0 false)/\Gk 1 tE (okW 57) m s (selN (sureQ L S mg wv b pl) pl k)/\Gk 1 tE (okW 78) m o (selN (openQ L S b pl) pl k)/\Gk 1 tE (okW 70) m l (selN (blindQ L S b pl) pl k)
 g6:m.get (0,4,6)=some (.row [I (cntJ b pl k:Nat)] 0 false)
 g7:m.get (0,5,7)=some (.row [B (mayN L S mg wv b pl k)] 0 false)
 nx:1<=m.next
def AI.fr{L:List Scene}{S:List OPr}{b:Bd}{i:Int}{k:Nat}{m e:Mem}(h:AI ba pa A sc pr lv cf E O L S b J i k m)(D:m.next<=e.next)(a:∀j:Id,j.1=0->e.get j=m.get j)(f:∀j:Id,j.2.2=57\/j.2.2=78\/j.2.2=70->e.get j=m.get j):AI ba pa A sc pr lv cf E O L S b J i k e:=by obtain⟨g,n,p,⟨s,o,l,r,t,u,x⟩,y,C,F⟩:=h;exact⟨by rw[a _ rfl];exact g,by rw[a _ rfl];exact n,by rw[a _ rfl];exact p,⟨s,o,l,by rw[a _ rfl];exact r,t.frame λj d=>f _ (.inl d.2),u.frame λj d=>f _ (.inr (.inl d.2)),x.frame λj d=>f _ (.inr (.inr d.2))⟩,by rw[a _ rfl];exact y,by rw[a _ rfl];exact C,by omega⟩
def AI.no{L:List Scene}{S:List OPr}{b:Bd}{i:Int}{k:Nat}{m:Mem}(h:AI ba pa A sc pr lv cf E O L S b J i k m)(a:rD b J k=false):AI ba pa A sc pr lv cf E O L S b J i (k+1) m:=by
 obtain⟨d,e,f,⟨s,o,l,g,j,n,p⟩,r,t,u⟩:=h;refine⟨d,e,f,⟨s,o,l,g,?_,?_,?_⟩,?_,?_,u⟩
 .rw[tT (by unfold sureQ;rw[a];rfl)];exact j
 .rw[tT (by unfold openQ;rw[a];rfl)];exact n
 .rw[tT (by unfold blindQ;rw[a];rfl)];exact p
 .rw[xf8,aB (by rw[a];decide)];exact r
 .rw[JZ,show uM L S O E b J k=false by unfold uM;rw[a];rfl,pm];exact t
theorem cj(x:ByteArray)(a:Id->Option Ob):elems a 1 (.aN [T x] 1 true)=some (tE x,1):=rfl
def AI.yes(d:Nat){W:List Bd}{L:List Scene}{S:List OPr}(w:Sl Bd.c ba W)(C:Sl Pn.c pa J)(Z:Sl Scene.c sc L)(hp:Sl OPr.c pr S)(F:aP lv=true/\aP cf=true)(ho:lv.one=true/\cf.one=true)(hcl:eM lv=true/\eM cf=true)(hpl:J.length<=1000)(hS:S.length<=1000)(hm:0<=O/\O<=2048)(hw:1<=E/\E<=10000)(hL:L.length<=12/\L.length<=d+8)(hQ:∀j:Nat,(ofPt j S).length<=19)(Q:∀p∈S,p.f.natAbs<=400000){i:Nat}(hi:i<W.length)(hth:0<=W[i].th/\W[i].th<=1000000)(hs0:FHs)(k:Nat)(hk:k<J.length)(m:Mem)(hb:D1 W[i] J[k]=true)(hI:AI ba pa A sc pr lv cf E O L S W[i] J i k m) :
    ∃X,GY (aH (d+15)) hs0 m.next (.ptr (0,0,2) 0 0) (.ptr (0,1,3) 0 0) (.ptr (0,3,5) 0 0) (.ptr (0,4,6) 0 0) (.ptr (0,5,7) 0 0) (I (k:Int)) ⟨m.hp,m.next+1⟩ 0=some X/\AI ba pa A sc pr lv cf E O L S W[i] J i (k+1) X:=by
 have M:rD W[i] J k=true:=(by rw[xen hk];exact hb);obtain⟨m1,P⟩:∃m1:Mem,m1=⟨m.hp,m.next+1⟩:=⟨_,rfl⟩;have hI1:AI ba pa A sc pr lv cf E O L S W[i] J i k m1:=hI.fr (by rw[P];exact uY _) (λj _=>by rw[P];rfl) (λj _=>by rw[P];rfl);have hnx:=hI.nx;rw[<-P];generalize hu:m.next=u at *
 have n1:m1.next=u+1:=(by rw[P]);obtain⟨a2,a3,a4,⟨s,o,l,a5,e1,e2,e3⟩,a6,a7,nx⟩:=hI1;have hcl1:=xf9 W[i] J k;have hcw:cG (((cntJ W[i] J k:Nat):Int)+1)=((cntJ W[i] J (k+1):Nat):Int):=(by rw[xf8,aF M,bQ];omega);generalize hm2:m1.set (0,4,6) (.row [I ((cntJ W[i] J (k+1):Nat):Int)] 0 false)=m2;have f2:∀j:Id,j≠(0,4,6)->m2.get j=m1.get j:=λj e=>by rw[<-hm2,Mem.cP,aB e]
 have b2:m2.get (0,0,2)=some (.row [.aE (SC E O ba pa A),sc,pr,lv,cf] 0 false):=(by rw[f2 _ (by simp)];exact a2);have ixp:=C.ix Pn.len hk;have ldn:∀m,aA false 1 (.aE ((J.drop k).flatMap Pn.c)) m=some (T J[k].nm):=λm=>by rw[fX hk,dT];rfl
 have q1:bZ (.aE (SC E O ba pa A))=some (.aE (SC E O ba pa A)):=rfl;have q2:aD 3 (.aE (SC E O ba pa A))=some (.aE [pa,A]):=rfl;have q3:∀m,aA false 1 (.aE [pa,A]) m=some pa:=λ_=>rfl
 have q4:aD 0 (.aE ((J.drop k).flatMap Pn.c))=some (.aE ((J.drop k).flatMap Pn.c)):=rfl;have l5:∀m:Mem,m.get (0,0,2)=some (.row [.aE (SC E O ba pa A),sc,pr,lv,cf] 0 false)->aA true 5 (.ptr (0,0,2) 0 0) m=some (FB E O ba pa A sc pr lv cf):=λm h=>by rw[jB,h];rfl
 have lp0:∀m:Mem,m.get (0,0,2)=some (.row [.aE (SC E O ba pa A),sc,pr,lv,cf] 0 false)->aA false 1 (.ptr (0,0,2) 0 0) m=some (.aE (SC E O ba pa A)):=λm h=>by rw[jB,h];rfl
 have hstl:[FB E O ba pa A sc pr lv cf,I (k:Int)].all bB=true:=(by show(([AV.aE (SC E O ba pa A),sc,pr,lv,cf].all aP)&&true)=true;simp[Z.aP,hp.aP,F.1,F.2];rfl);obtain⟨v,⟨x,y,rfl,hx,hy⟩,hlk⟩:=rI hstl (xho d (ba:=ba) (pa:=pa) (A:=A) (E:=E) (O:=O) Z hp ho F hS (k:Int) ⟨hL.1,hL.2,hQ k⟩) m2;have hb1:([I (fQ L (ofPt k S)),x,y]:List AV).all AV.one=true:=(by simp[hx.one,hy.one]);unfold GY vc;have l6:aA false 1 (.ptr (0,4,6) 0 0) m1=some (I ((cntJ W[i] J k:Nat):Int)):=(by rw[jB,a6];rfl);have s6:∀{R:Type} (K:Mem->Option R),aU 1 (.ptr (0,4,6) 0 0) (I ((cntJ W[i] J (k+1):Nat):Int)) m1 K=K m2:=λK=>by rw[qM,a6,<-hm2];rfl
 have p0:aD 0 (.ptr (0,0,2) 0 0)=some (.ptr (0,0,2) 0 0):=rfl;have S10:∀(m:Mem) (sf:Nat) {R:Type} (K:Mem->Option R),aU 3 (.ptr (u,sf,10) 0 0) (.agg [I (fQ L (ofPt k S)),x,y]) (m.new (u,sf,10) (.row lE 0 false)) K=K ((m.new (u,sf,10) (.row lE 0 false)).set (u,sf,10) (.row [I (fQ L (ofPt k S)),x,y] 0 false)):=λm sf R K=>by rw[qM,Mem.kM,AD,AZ];simp[hb1]
 simp only[l6,aG,dY,hcw,s6,p0,lp0 _ b2,q1,q2,q3,ixp,q4,ldn,l5 _ b2,hlk,kK,S10];generalize hm3:Mem.set _ _ _=m3;have f3:∀j:Id,j.2.2≠10->m3.get j=m2.get j:=λj e=>by rw[<-hm3,Mem.cP,aB (by rintro rfl;simp at e),Mem.dH,aB (by rintro rfl;simp at e)]
 have g10:m3.get (u,0+1+16,10)=some (.row [I (fQ L (ofPt k S)),x,y] 0 false):=(by rw[<-hm3];simp);have n3:m3.next=u+1:=(by rw[<-hm3];show m2.next=u+1;rw[<-hm2];exact n1);have c2:m3.get (0,0,2)=some (.row [.aE (SC E O ba pa A),sc,pr,lv,cf] 0 false):=(by rw[f3 _ (by simp)];exact b2);have c3:m3.get (0,1,3)=some (.row [I (i:Int)] 0 false):=(by rw[f3 _ (by simp),f2 _ (by simp)];exact a3);have c4:m3.get (0,2,4)=some (.row [I 0,nilS,nilS,nilS] 0 false):=(by rw[f3 _ (by simp),f2 _ (by simp)];exact a4);have c5:m3.get (0,3,5)=some (.row [I 0,s,o,l] 0 false):=(by rw[f3 _ (by simp),f2 _ (by simp)];exact a5);have c6:m3.get (0,4,6)=some (.row [I ((cntJ W[i] J (k+1):Nat):Int)] 0 false):=(by rw[f3 _ (by simp),<-hm2];simp);have c7:m3.get (0,5,7)=some (.row [B (mayN L S O E W[i] J k)] 0 false):=(by rw[f3 _ (by simp),f2 _ (by simp)];exact a7);have d1:Gk 1 tE (okW 57) m3 s (selN (sureQ L S O E W[i] J) J k):=e1.frame λj e=>by rw[f3 _ (by have:=e.2;omega),f2 _ (by rintro rfl;simp[okW]at e)]
 have d2:Gk 1 tE (okW 78) m3 o (selN (openQ L S W[i] J) J k):=e2.frame λj e=>by rw[f3 _ (by have:=e.2;omega),f2 _ (by rintro rfl;simp[okW]at e)]
 have d3:Gk 1 tE (okW 70) m3 l (selN (blindQ L S W[i] J) J k):=e3.frame λj e=>by rw[f3 _ (by have:=e.2;omega),f2 _ (by rintro rfl;simp[okW]at e)]
 have D:EJ L S k=fQ L (ofPt k S):=rfl;have l10:aA false 1 (.ptr (u,0+1+16,10) 0 0) m3=some (I (fQ L (ofPt k S))):=(by rw[jB,g10];rfl);have p10:aD 0 (.ptr (u,0+1+16,10) 0 0)=some (.ptr (u,0+1+16,10) 0 0):=rfl;unfold vd uq ur ut;simp only[p10,aG,l10,iD];have N:∀X:Mem,X.get (0,4,6)=m3.get (0,4,6)->X.get (0,4,6)=some (.row [I ((cntJ W[i] J (k+1):Nat):Int)] 0 false):=λX h=>h.trans c6
 have hsl:(selN (sureQ L S O E W[i] J) J k).length<=1000:=iQ (BK _ _ _) (by omega);have hol:(selN (openQ L S W[i] J) J k).length<=1000:=iQ (BK _ _ _) (by omega);have hbl:(selN (blindQ L S W[i] J) J k).length<=1000:=iQ (BK _ _ _) (by omega);have hr:∀n:Nat,n<=1000->cH (n+1) 16:=λn h=>by unfold cH;omega
 have hcase:fQ L (ofPt k S)=0\/fQ L (ofPt k S)=1\/fQ L (ofPt k S)=2:=(by unfold fQ;split;exact .inl rfl;split;exact .inr (.inr rfl);exact .inr (.inl rfl));rcases hcase with K0|K1|K2
 ·
  have r1:sureQ L S O E W[i] J k=false:=(by unfold sureQ;rw[D,K0];simp);have r2:openQ L S W[i] J k=false:=(by unfold openQ;rw[D,K0];simp);have r3:blindQ L S W[i] J k=true:=(by unfold blindQ;rw[D,K0,M];rfl);have r4:uM L S O E W[i] J k=false:=(by unfold uM;rw[D,K0];simp);obtain⟨l',g,A1,A2,A3,A4,A5,A6⟩:=d3.app (bytes:=16) (id0:=(u,0+1+20+2+4,70)) K8 (by omega) ⟨hnx,rfl⟩ (hr _ hbl) J[k].nm;have g5:g.get (0,3,5)=some (.row [I 0,s,o,l] 0 false):=(by rw[A6 _ (by simp[okW])];exact c5);have st:oR 1 0 3 l' (some (.row [I 0,s,o,l] 0 false))=some (.row [I 0,s,o,l'] 0 false):=(by simp[A3,A4]);have lb:aA false 1 (.ptr (0,3,5) 0 3) m3=some l:=(by rw[jB,c5];rfl);have p3:aD 3 (.ptr (0,3,5) 0 0)=some (.ptr (0,3,5) 0 3):=rfl;unfold ux;simp only[K0,bG,aT,p3,aG,lb,ZJ,cj,A1,qM,g5,st];generalize r:g.set (0,3,5) _=m5;have t:∀j:Id,j≠(0,3,5)->¬okW 70 j->m5.get j=m3.get j:=λj w C=>by rw[<-r,Mem.cP,aB w,A6 _ C]
  refine⟨m5,rfl,by rw[t _ (by simp) (by simp[okW])];exact c2,by rw[t _ (by simp) (by simp[okW])];exact c3,by rw[t _ (by simp) (by simp[okW])];exact c4,⟨s,o,l',by rw[<-r];simp,?_,?_,?_⟩,N m5 (t _ (by simp) (by simp[okW])),by rw[t _ (by simp) (by simp[okW]),JZ,r4,pm];exact c7,by rw[<-r];show 1<=g.next;rw[A5,n3];omega⟩
  .rw[tT r1];exact d1.frame λj e=>t _ (by rintro rfl;simp[okW]at e) (by intro h;have w:=h.2;have C:=e.2;omega)
  .rw[tT r2];exact d2.frame λj e=>t _ (by rintro rfl;simp[okW]at e) (by intro h;have w:=h.2;have C:=e.2;omega)
  .rw[XZ hk r3];exact A2.frame λj e=>by rw[<-r,Mem.cP,aB (by rintro rfl;simp[okW]at e)]
 ·
  have r1:sureQ L S O E W[i] J k=false:=(by unfold sureQ;rw[D,K1];simp);have r2:openQ L S W[i] J k=true:=(by unfold openQ;rw[D,K1,M];rfl);have r3:blindQ L S W[i] J k=false:=(by unfold blindQ;rw[D,K1];simp);have r4:uM L S O E W[i] J k=false:=(by unfold uM;rw[D,K1];simp);obtain⟨o',g,A1,A2,A3,A4,A5,A6⟩:=d2.app (bytes:=16) (id0:=(u,0+1+20+2+2+4,78)) K8 (by omega) ⟨hnx,rfl⟩ (hr _ hol) J[k].nm;have g5:g.get (0,3,5)=some (.row [I 0,s,o,l] 0 false):=(by rw[A6 _ (by simp[okW])];exact c5);have st:oR 1 0 2 o' (some (.row [I 0,s,o,l] 0 false))=some (.row [I 0,s,o',l] 0 false):=(by simp[A3,A4]);have lb:aA false 1 (.ptr (0,3,5) 0 2) m3=some o:=(by rw[jB,c5];rfl);have p3:aD 2 (.ptr (0,3,5) 0 0)=some (.ptr (0,3,5) 0 2):=rfl;unfold uw;simp only[K1,show decide ((1:Int)=0)=false from rfl,bG,aT,aV,p3,aG,lb,ZJ,cj,A1,qM,g5,st];generalize r:g.set (0,3,5) _=m5;have t:∀j:Id,j≠(0,3,5)->¬okW 78 j->m5.get j=m3.get j:=λj w C=>by rw[<-r,Mem.cP,aB w,A6 _ C]
  refine⟨m5,rfl,by rw[t _ (by simp) (by simp[okW])];exact c2,by rw[t _ (by simp) (by simp[okW])];exact c3,by rw[t _ (by simp) (by simp[okW])];exact c4,⟨s,o',l,by rw[<-r];simp,?_,?_,?_⟩,N m5 (t _ (by simp) (by simp[okW])),by rw[t _ (by simp) (by simp[okW]),JZ,r4,pm];exact c7,by rw[<-r];show 1<=g.next;rw[A5,n3];omega⟩
  .rw[tT r1];exact d1.frame λj e=>t _ (by rintro rfl;simp[okW]at e) (by intro h;have w:=h.2;have C:=e.2;omega)
  .rw[XZ hk r2];exact A2.frame λj e=>by rw[<-r,Mem.cP,aB (by rintro rfl;simp[okW]at e)]
  .rw[tT r3];exact d3.frame λj e=>t _ (by rintro rfl;simp[okW]at e) (by intro h;have w:=h.2;have C:=e.2;omega)
 ·
  have r2:openQ L S W[i] J k=false:=(by unfold openQ;rw[D,K2];simp);have r3:blindQ L S W[i] J k=false:=(by unfold blindQ;rw[D,K2];simp);obtain⟨y1,y2,y3,y4⟩:=xxw K2 hL.1 λp hp'=>Q p (iX.mp hp').1
  have hlt:mE (fP L (ofPt k S))<(fP L (ofPt k S)).length:=(by have:=ZT (fP L (ofPt k S)) ((fP L (ofPt k S)).length-1);unfold mE;omega);have wl:=λm=>xkz (d+14) (K:=fQ L (ofPt k S)) hx (y:=y) ⟨hy.one,hy.aP⟩ (by rw[y1];omega) m
  have wm:=λm=>xku (d+14) (ba:=ba) (pa:=pa) (A:=A) (E:=E) (O:=O) (sc:=sc) (pr:=pr) (lv:=lv) (cf:=cf) (K:=fQ L (ofPt k S)) hx (y:=y) ⟨hy.one,hy.aP⟩ (by simp[Z.one,hp.one,ho.1,ho.2]) (by simp[Z.aP,hp.aP,F.1,F.2]) hlt m
  have we:=λm=>xlu (d+11) (s:=at0 (fP L (ofPt k S)) (mE (fP L (ofPt k S)))) ⟨y3,y4⟩ hm hw hth m
  have ixb:=w.ix Bd.len hi;have x1:aD 2 (.aE ((W.drop i).flatMap Bd.c))=some (.aE (((W.drop i).flatMap Bd.c).drop 2)):=rfl;have x2:∀m,aA false 1 (.aE (((W.drop i).flatMap Bd.c).drop 2)) m=some (I W[i].th):=λm=>by rw[fX hi,dT];rfl
  have q5:aD 2 (.aE (SC E O ba pa A))=some (.aE [ba,pa,A]):=rfl;have q6:∀m,aA false 1 (.aE [ba,pa,A]) m=some ba:=λ_=>rfl
  have l3:aA false 1 (.ptr (0,1,3) 0 0) m3=some (I (i:Int)):=(by rw[jB,c3];rfl);have l33:aA true 3 (.ptr (u,0+1+16,10) 0 0) m3=some (.agg [I (fQ L (ofPt k S)),x,y]):=(by rw[jB,g10];rfl);have hM1:bU 0 [.agg [I (fQ L (ofPt k S)),x,y]]=2:=(by rw[C5,show([.agg [I (fQ L (ofPt k S)),x,y]]:List AV).all clean=true by simp[clean,hx.eM,hy.eM]];rfl);have hM2:∀n:Int,bU 0 [FB E O ba pa A sc pr lv cf,.agg [I (fQ L (ofPt k S)),x,y],I n]=2:=λn=>by rw[C5,show([FB E O ba pa A sc pr lv cf,.agg [I (fQ L (ofPt k S)),x,y],I n]:List AV).all clean=true by simp[clean,hx.eM,hy.eM,Z.eM,hp.eM,hcl.1,hcl.2];rfl];rfl
  unfold uu;simp only[K2,show decide ((2:Int)=0)=false from rfl,show decide ((2:Int)=1)=false from rfl,aV];rw[K2]at l33 wl wm hM1 hM2;simp only[l5 _ c2,l33,aG,wl,wm,p0,lp0 _ c2,q1,q5,q6,l3,ixb,x1,x2,we,kU,jU,jV,hM1,hM2];have gP:∀(id:Id) (H n:Nat),id.1<n->cU (some n) (tR (.ptr id 0 H)) 2=true:=λid H n h=>by simp[cU,tR,Nat.blt,Nat.ble_eq];omega
  have gN:∀(id:Id) (H:Nat),cU none (tR (.ptr id 0 H)) 2=true:=λid H=>rfl
  have gL:∀(l:List AV) (n:Nat),cU (some n) (tR (.aE l)) 2=true:=λl n=>rfl
  have hn0:∀a b:Nat,((0,a,b):Id).1<m3.next:=λa b=>by show 0<m3.next;omega
  simp only[gP _ _ _ (hn0 _ _),gN,gL,show Nat.ble 1 2=true from rfl,gD,bD];have hE:cg L S O E W[i].th k=E9 (at0 (fP L (ofPt k S)) (mE (fP L (ofPt k S)))) O E W[i].th:=rfl;generalize hex:E9 (at0 (fP L (ofPt k S)) (mE (fP L (ofPt k S)))) O E W[i].th=ex at *
  have r1:sureQ L S O E W[i] J k=decide (ex=2):=(by unfold sureQ;rw[D,K2,hE,M];simp);have r4:uM L S O E W[i] J k=decide (ex=1):=(by unfold uM;rw[D,K2,hE,M];simp);have fin:∀(g:Mem) (Y:Nat) (s':AV),(∀j:Id,j≠(0,3,5)->¬okW 57 j->g.get j=m3.get j)->g.next=m3.next->g.get (0,3,5)=some (.row [I 0,s',o,l] 0 false)->Gk 1 tE (okW 57) g s' (selN (sureQ L S O E W[i] J) J (k+1)) ->
   ∃X,GX (aH (d+15)) hs0 u (.ptr (0,5,7) 0 0) (I ex) g Y=some X/\AI ba pa A sc pr lv cf E O L S W[i] J i (k+1) X:=λg Y s' Q hn g5 hG=>by
   have g7:g.get (0,5,7)=some (.row [B (mayN L S O E W[i] J k)] 0 false):=(by rw[Q _ (by simp) (by simp[okW])];exact c7);have hval:mayN L S O E W[i] J (k+1)=(mayN L S O E W[i] J k||decide (ex=1)):=(by rw[JZ,r4]);refine⟨g.set (0,5,7) (.row [B (mayN L S O E W[i] J (k+1))] 0 false),?_,?_⟩
   .unfold GX;rw[hval];have l7:aA false 1 (.ptr (0,5,7) 0 0) g=some (B (mayN L S O E W[i] J k)):=(by rw[jB,g7];rfl);clear hval;generalize mayN L S O E W[i] J k=bb at g7 l7 ⊢;cases bb<;>simp[l7,g7]
   .have h5:∀j:Id,j≠(0,5,7)->(g.set (0,5,7) (.row [B (mayN L S O E W[i] J (k+1))] 0 false)).get j=g.get j:=λj e=>by rw[Mem.cP,aB e]
    refine⟨by rw[h5 _ (by simp),Q _ (by simp) (by simp[okW])];exact c2,by rw[h5 _ (by simp),Q _ (by simp) (by simp[okW])];exact c3,by rw[h5 _ (by simp),Q _ (by simp) (by simp[okW])];exact c4,⟨s',o,l,by rw[h5 _ (by simp)];exact g5,?_,?_,?_⟩,by rw[h5 _ (by simp)];exact N g (Q _ (by simp) (by simp[okW])),by simp,by show 1<=g.next;rw[hn,n3];omega⟩
    .exact hG.frame λj e=>h5 _ (by rintro rfl;simp[okW]at e)
    .rw[tT r2];exact d2.frame λj e=>by rw[h5 _ (by rintro rfl;simp[okW]at e),Q _ (by rintro rfl;simp[okW]at e) (by intro h;have w:=h.2;have C:=e.2;omega)]
    .rw[tT r3];exact d3.frame λj e=>by rw[h5 _ (by rintro rfl;simp[okW]at e),Q _ (by rintro rfl;simp[okW]at e) (by intro h;have w:=h.2;have C:=e.2;omega)]
  unfold uv;by_cases c9:ex=2
  .obtain⟨s',g,A1,A2,A3,A4,A5,A6⟩:=d1.app (bytes:=16) (id0:=(u,0+1+20+2+2+20+6,57)) K8 (by omega) ⟨hnx,rfl⟩ (hr _ hsl) J[k].nm;have g5:g.get (0,3,5)=some (.row [I 0,s,o,l] 0 false):=(by rw[A6 _ (by simp[okW])];exact c5);have st:oR 1 0 1 s' (some (.row [I 0,s,o,l] 0 false))=some (.row [I 0,s',o,l] 0 false):=(by simp[A3,A4]);have lb:aA false 1 (.ptr (0,3,5) 0 1) m3=some s:=(by rw[jB,c5];rfl);have p3:aD 1 (.ptr (0,3,5) 0 0)=some (.ptr (0,3,5) 0 1):=rfl;simp only[iD,c9,bG,aG,aT,p3,lb,ZJ,cj,A1,qM,g5,st];rw[<-c9];refine fin _ _ s' (λj w C=>by rw[Mem.cP,aB w,A6 _ C]) A5 (by simp) ?_;rw[XZ hk (by rw[r1,c9];rfl)];exact A2.frame λj e=>by rw[Mem.cP,aB (by rintro rfl;simp[okW]at e)]
  .simp only[iD,c9,bP,aG,aV];exact fin m3 _ s (λ_ _ _=>rfl) rfl c5 (by rw[tT (by rw[r1];simp[c9])];exact d1)
end Go.Ix
namespace Go.Ix
open Go.Proofs
variable{ba pa A sc pr lv cf:AV}{E O:Int}{J:List Pn}
def pP(L:List Scene)(S:List OPr)(O E:Int)(b:Bd)(J:List Pn):Int:=
 if 0<(selN (sureQ L S O E b J) J J.length).length then 2
 else if mayN L S O E b J J.length=true\/cntJ b J J.length=0\/0<(selN (blindQ L S b J) J J.length).length+(selN (openQ L S b J) J J.length).length then 1 else 0
def VV(L:List Scene)(S:List OPr)(O E:Int)(b:Bd)(J:List Pn)(v:AV):Prop:=
 ∃s o l,v=.agg [I (pP L S O E b J),s,o,l]/\Sl tE s (selN (sureQ L S O E b J) J J.length)/\Sl tE o (selN (openQ L S b J) J J.length)/\Sl tE l (selN (blindQ L S b J) J J.length)
def xj6:WI=[I 0,nilS,nilS,nilS]:=by kernel_rfl
def x7q(d:Nat)(i:Int)(l:[sc,pr,lv,cf].all AV.one=true)(b:[sc,pr,lv,cf].all aP=true)(m:Mem) :
    aI (aH (d+1)) Q9 [FB E O ba pa A sc pr lv cf,I i] m=some (.clo yG [.aE [.aE (SC E O ba pa A),sc,pr,lv,cf],.aE [I i]],m):=by
 have g:(FB E O ba pa A sc pr lv cf).cells.all AV.one=true:=(by show((AV.aE (SC E O ba pa A)).one&&[sc,pr,lv,cf].all AV.one)=true;rw[l];rfl);have e:[FB E O ba pa A sc pr lv cf,I i].all bB=true:=(by show(([AV.aE (SC E O ba pa A),sc,pr,lv,cf].all aP)&&true)=true;rw[dP,b];rfl);have h:∃M:Mem,aH (d+1) [] Q9 [FB E O ba pa A sc pr lv cf,I i] mem0=some (.clo yG [.ptr (0,0,2) 0 0,.ptr (0,1,3) 0 0],M)/\M.get (0,0,2)=some (.row [.aE (SC E O ba pa A),sc,pr,lv,cf] 0 false)/\M.get (0,1,3)=some (.row [I i] 0 false):=(by rw[x6l];unfold nh bA TP;have j:(I i).cells.all AV.one=true:=rfl;simp only[mem0,jD,g,j,bD];exact⟨_,rfl,by rw[Mem.yT (by simp),Mem.kM];rfl,by rw[Mem.kM];rfl⟩);obtain⟨M,p,r,t⟩:=h;refine U7 e p ?_
 have n:Go.Ix.frz M.get 5 (.ptr (0,0,2) 0 0)=some (.aE [.aE (SC E O ba pa A),sc,pr,lv,cf]):=rG r (sF λa f=>by
  rcases dW.mp f with rfl|f
  .rfl
  .exact uR M.get 3 (dJ.mp b a f))
 have o:Go.Ix.frz M.get 5 (.ptr (0,1,3) 0 0)=some (.aE [I i]):=rG t rfl;show([AV.ptr (0,0,2) 0 0,.ptr (0,1,3) 0 0].mapM (Go.Ix.frz M.get 5)).map (AV.clo yG)=_;simp only[eI,gX,n,o];rfl
def x87(d:Nat){W:List Bd}{L:List Scene}{S:List OPr}(h1:Sl Bd.c ba W)(h2:Sl Pn.c pa J)(Z:Sl Scene.c sc L)(hp:Sl OPr.c pr S)(w:aP lv=true/\aP cf=true)(N:lv.one=true/\cf.one=true)(P:eM lv=true/\eM cf=true)(Q:J.length<=1000)(hS:S.length<=1000)(hm:0<=O/\O<=2048)(hw:1<=E/\E<=10000)(hL:L.length<=12/\L.length<=d+8)(hQ:∀j:Nat,(ofPt j S).length<=19)(hf:∀p∈S,p.f.natAbs<=400000){i:Nat}(hi:i<W.length)(hth:0<=W[i].th/\W[i].th<=1000000)(hz:polyE W[i].cs=0)(hp2:∀p∈J,isPl p.at_=true) :
    RetF (VV L S O E W[i] J) (aH (d+16) [] B8 [FB E O ba pa A sc pr lv cf,I (i:Int)] mem0):=by
 rw[x6p];unfold nl bA TT;have ho1:(FB E O ba pa A sc pr lv cf).cells.all AV.one=true:=(by show((AV.aE (SC E O ba pa A)).one&&[sc,pr,lv,cf].all AV.one)=true;simp[Z.one,hp.one,N.1,N.2];rfl);have ho2:(I (i:Int)).cells.all AV.one=true:=rfl;simp only[mem0,jD,ho1,ho2,bD];generalize F:Mem.new (Mem.new _ _ _) _ _=m1;have g2:m1.get (0,0,2)=some (.row [.aE (SC E O ba pa A),sc,pr,lv,cf] 0 false):=(by rw[<-F];simp);have g3:m1.get (0,1,3)=some (.row [I (i:Int)] 0 false):=(by rw[<-F];simp);have n1:m1.next=1:=(by rw[<-F];rfl);simp[xj6,mU,HI];generalize b:Mem.set _ _ _=m2;have k2:m2.get (0,0,2)=some (.row [.aE (SC E O ba pa A),sc,pr,lv,cf] 0 false):=(by rw[<-b];simp[g2]);have k3:m2.get (0,1,3)=some (.row [I (i:Int)] 0 false):=(by rw[<-b];simp[g3]);have k4:m2.get (0,2,4)=some (.row [I 0,nilS,nilS,nilS] 0 false):=(by rw[<-b];simp);have k5:m2.get (0,3,5)=some (.row [I 0,nilS,nilS,nilS] 0 false):=(by rw[<-b];simp);have k6:m2.get (0,4,6)=some (.row [I 0] 0 false):=(by rw[<-b];simp);have k7:m2.get (0,5,7)=some (.row [B false] 0 false):=(by rw[<-b];simp);have n2:m2.next=1:=(by rw[<-b];exact n1);have hcr:[sc,pr,lv,cf].all AV.one=true:=(by simp[Z.one,hp.one,N.1,N.2]);have hcs:[sc,pr,lv,cf].all aP=true:=(by simp[Z.aP,hp.aP,w.1,w.2]);have l5:aA true 5 (.ptr (0,0,2) 0 0) m2=some (FB E O ba pa A sc pr lv cf):=(by rw[jB,k2];rfl);have l3:aA false 1 (.ptr (0,1,3) 0 0) m2=some (I (i:Int)):=(by rw[jB,k3];rfl);unfold uy;simp only[l5,l3,aG,x7q (d+14) (i:Int) hcr hcs];unfold uz;simp only[tV];obtain⟨H,hH⟩:∃H:List AV->Mem->Option Mem,H=λu m=>bif Nat.beq u.length 1&&true then GY (aH (d+15)) [] m.next (.ptr (0,0,2) 0 0) (.ptr (0,1,3) 0 0) (.ptr (0,3,5) 0 0) (.ptr (0,4,6) 0 0) (.ptr (0,5,7) 0 0) (u.getD 0 U) ⟨m.hp,m.next+1⟩ 0 else none:=⟨_,rfl⟩
 rw[<-hH];have hI0:AI ba pa A sc pr lv cf E O L S W[i] J i 0 ⟨m2.hp,m2.next+1⟩:=(by refine⟨k2,k3,k4,⟨nilS,nilS,nilS,k5,Gk.nil,Gk.nil,Gk.nil⟩,k6,k7,?_⟩;show 1<=m2.next+1;omega);obtain⟨g,r6,I6⟩:=xyq (A:=A) (E:=E) (O:=O) (n1:=sc) (n2:=pr) (n3:=lv) (n4:=cf) (d+8) (0,8+3,0) rfl H [] m2.next h1 h2 Q hi hz hp2 (AI ba pa A sc pr lv cf E O L S W[i] J i)
  (λk m m' R X hn=>R.fr (by omega) (λj e=>X j (by rintro⟨h5,-⟩;omega)) (λj e=>X j (by rintro⟨-,h5⟩;omega)))
  (λk hk m hb R=>R.no (by rw[xen hk];exact hb))
  (λk hk m hb R=>by
   rw[hH]
   exact AI.yes d h1 h2 Z hp w N P Q hS hm hw hL hQ hf hi hth [] k hk m hb R) J 0 NN ⟨m2.hp,m2.next+1⟩ 7 rfl (by rw[dF];omega) (FP _) hI0
 have y:aH (d+15) [((0,8+3,0),H)] yG [.yld (0,8+3,0),.aE [.aE (SC E O ba pa A),sc,pr,lv,cf],.aE [I (i:Int)]] m2=some (.tup [],g):=by
  rw[x6k];unfold ng fC TN;have q1:aD 0 (.aE [.aE (SC E O ba pa A),sc,pr,lv,cf])=some (.aE [.aE (SC E O ba pa A),sc,pr,lv,cf]):=rfl;have q2:∀m,aA false 1 (.aE [.aE (SC E O ba pa A),sc,pr,lv,cf]) m=some (.aE (SC E O ba pa A)):=λ_=>rfl
  have q3:bZ (.aE (SC E O ba pa A))=some (.aE (SC E O ba pa A)):=rfl;have q4:aD 3 (.aE (SC E O ba pa A))=some (.aE [pa,A]):=rfl;have q5:∀m,aA false 1 (.aE [pa,A]) m=some pa:=λ_=>rfl
  simp only[q1,q2,q3,q4,q5,aG,h2.len qE];exact r6
 rw[y];obtain⟨-,-,j4,⟨s,o,l,j5,e1,e2,e3⟩,j6,j7,-⟩:=I6;have u1:∀{a:AV} {t:Nat} {x:List ByteArray},Gk 1 tE (okW t) g a x->a.one=true:=λh=>h.one.2
 have e1l:=e1.len vH;have e2l:=e2.len vH;have e3l:=e3.len vH;have fin:∀(n:Int) (K:Mem) (Y:Nat),n=pP L S O E W[i] J->K.get (0,3,5)=some (.row [I n,s,o,l] 0 false)->(∀j:Id,j≠(0,3,5)->K.get j=g.get j)->RetF (VV L S O E W[i] J) (J0 (aH (d+15)) [] 0 (.ptr (0,2,4) 0 0) (.ptr (0,3,5) 0 0) K Y):=λn K Y hn h5 hf7=>by
  have h4:K.get (0,2,4)=some (.row [I 0,nilS,nilS,nilS] 0 false):=(by rw[hf7 _ (by simp)];exact j4);unfold J0;simp[h5,h4,u1 e1,u1 e2,u1 e3,fO];generalize hm8:Mem.set K _ _=m8;have C:∀(t:Nat) (j:Id),okW t j->m8.get j=g.get j:=λt j e=>by rw[<-hm8,Mem.cP,aB (by rintro rfl;simp[okW]at e),hf7 _ (by rintro rfl;simp[okW]at e)]
  obtain⟨s',z1,y1⟩:=(e1.frame (m':=m8) λj e=>C _ j e).frz (k:=3) K8 XP;obtain⟨o',z2,y2⟩:=(e2.frame (m':=m8) λj e=>C _ j e).frz (k:=3) K8 XP;obtain⟨l',z3,y3⟩:=(e3.frame (m':=m8) λj e=>C _ j e).frz (k:=3) K8 XP;exact RetF.mk (xe7 (k:=4) rfl y1 y2 y3) ⟨s',o',l',by rw[hn],z1,z2,z3⟩
 have P:=xf9 W[i] J J.length;have hb1:=BK (blindQ L S W[i] J) J J.length;have hb2:=BK (openQ L S W[i] J) J J.length;have rE:∀n:Int,oR 1 0 0 (I n) (some (.row [I 0,s,o,l] 0 false))=some (.row [I n,s,o,l] 0 false):=λn=>by simp
 unfold ve;have l51:aA false 1 (.ptr (0,3,5) 0 1) g=some s:=(by rw[jB,j5];rfl);have l52:aA false 1 (.ptr (0,3,5) 0 2) g=some o:=(by rw[jB,j5];rfl);have l53:aA false 1 (.ptr (0,3,5) 0 3) g=some l:=(by rw[jB,j5];rfl);have D:aA false 1 (.ptr (0,4,6) 0 0) g=some (I (cntJ W[i] J J.length:Nat)):=(by rw[jB,j6];rfl);have r:aA false 1 (.ptr (0,5,7) 0 0) g=some (B (mayN L S O E W[i] J J.length)):=(by rw[jB,j7];rfl);have M:pP L S O E W[i] J=if 0<(selN (sureQ L S O E W[i] J) J J.length).length then 2 else if mayN L S O E W[i] J J.length=true\/cntJ W[i] J J.length=0\/0<(selN (blindQ L S W[i] J) J J.length).length+(selN (openQ L S W[i] J) J J.length).length then 1 else 0:=rfl
 simp only[aG,cX,bR,l51,e1l,iC];by_cases c1:0<(selN (sureQ L S O E W[i] J) J J.length).length
 .have c1':(0:Int)<((selN (sureQ L S O E W[i] J) J J.length).length:Int):=(by omega);simp only[c1',bG,aT,qM,j5,rE,aG];exact fin 2 _ _ (by rw[M,aF c1]) (by simp) λj e=>by rw[Mem.cP,aB e]
 .have c1':¬(0:Int)<((selN (sureQ L S O E W[i] J) J J.length).length:Int):=(by omega);rw[aB c1]at M;generalize mayN L S O E W[i] J J.length=bb at *
  have hw1:cG (((selN (blindQ L S W[i] J) J J.length).length:Int)+((selN (openQ L S W[i] J) J J.length).length:Int))=((selN (blindQ L S W[i] J) J J.length).length:Int)+((selN (openQ L S W[i] J) J J.length).length:Int):=bQ;have yes:∀(Y:Nat),pP L S O E W[i] J=1->RetF (VV L S O E W[i] J) ((oR 1 0 0 (I 1) (g.get (0,3,5))).bind λo'=>J0 (aH (d+15)) [] 0 (.ptr (0,2,4) 0 0) (.ptr (0,3,5) 0 0) (g.set (0,3,5) o') Y):=λY h=>by rw[j5,rE,aG];exact fin 1 _ _ h.symm (by simp) λj e=>by rw[Mem.cP,aB e]
  cases bb with
  |true=>simp only[c1',bP,aV,r,aG,dZ,dX,cN,cZ,cW,bD,aT,qM];exact yes _ (by rw[M];simp)
  |false=>
   by_cases c2:cntJ W[i] J J.length=0
   .have c2':((cntJ W[i] J J.length:Nat):Int)=0:=(by omega);simp only[c1',bP,aV,r,D,aG,dZ,dX,cF,bD,iD,c2',bG,cW,cZ,cN,aT,qM];exact yes _ (by rw[M];simp[c2])
   .have c2':¬((cntJ W[i] J J.length:Nat):Int)=0:=(by omega);by_cases c3:0<(selN (blindQ L S W[i] J) J J.length).length+(selN (openQ L S W[i] J) J J.length).length
    .have c3':(0:Int)<((selN (blindQ L S W[i] J) J J.length).length:Int)+((selN (openQ L S W[i] J) J J.length).length:Int):=(by omega);simp only[c1',bP,aV,r,D,l52,l53,e2l,e3l,aG,dZ,dX,cF,bD,iD,c2',cW,cZ,dY,hw1,iC,c3',bG,aT,qM];exact yes _ (by rw[M];simp[c3])
    .have c3':¬(0:Int)<((selN (blindQ L S W[i] J) J J.length).length:Int)+((selN (openQ L S W[i] J) J J.length).length:Int):=(by omega);simp only[c1',bP,aV,r,D,l52,l53,e2l,e3l,aG,dZ,dX,cF,bD,iD,c2',cW,cZ,dY,hw1,iC,c3',aV];exact fin 0 _ _ (by rw[M];simp[c2,c3]) j5 λ_ _=>rfl
def xwa(t:Nat):bY prog .eql WP (.tmp t) (.const .nilIface) (AV.sc .nilIface) (AV.sc .nilIface)=some (B true):=by kernel_rfl
def x1t(t:Nat):bY prog .eql WP (.tmp t) (.const .nilIface) (.un wP) (AV.sc .nilIface)=some (B false):=by refine xow (A:=wP) (B:=λv=>v=.nilIface) (v0:=.bool false) ⟨⟨.iface 0 .nilIface,0,.nilIface,rfl⟩,λv h=>h⟩ (Is.sc rfl) rfl ?_;rintro u v ⟨t,z,rfl⟩ rfl;exact OkR.run (a:=Value.bool false) (R:=λv=>v=.bool false) rfl (by kernel_rfl)
def yw(d:Nat){w:List UInt8}(u:w.length<=100000)(m:Mem):∃n,aI (aH (d+4)) yE [Tx w] m=some (.tup [I n,B (kF w 9).isSome],m)/\∀k,kF w 9=some k->n=k:=by
 suffices i:RetF (λv=>∃n,v=.tup [I n,B (kF w 9).isSome]/\∀k,kF w 9=some k->n=k) (aH (d+4) [] yE [Tx w] mem0) by obtain⟨v,⟨n,rfl,h⟩,t⟩:=rI (by rfl) i m;exact⟨n,t,h⟩
 rw[<-xmq w (by omega:9<=18),x5q];unfold ks bW RY;simp only[mem0];generalize (⟨[],0+1⟩:Mem)=m1;rcases xl6 (d+2) (l:=w) (by omega) m1 with ⟨n,f,p⟩|⟨f,n,p⟩
 .have b:=xhd f;have j:=λm=>xlo (d+2) b.1 b.2 m
  have e:K7 w 9=if dI n=w/\(lW w).length<=9 then some n else none:=by unfold K7;rw[f]
  simp only[p,aG,kU,jU,jV,xwa,gR,dZ,gS,iS,bD,j,oP,cW];by_cases g:dI n=w
  .simp only[g,bG,bD,aG,xli,mX,IU];by_cases r:(lW w).length<=9
   .have o:((lW w).length:Int)<=9:=(by omega);rw[e,aF ⟨g,r⟩];simp only[o,bG];exact RetF.tup rfl ⟨n,rfl,λk a=>pR a⟩
   .have o:¬((lW w).length:Int)<=9:=(by omega);rw[e,aB (λh=>r h.2)];simp only[o,bP];exact RetF.tup rfl ⟨n,rfl,λk a=>by cases a⟩
  .rw[e,aB (λh=>g h.1)];simp only[g,bP,cZ,aG];exact RetF.tup rfl ⟨n,rfl,λk a=>by cases a⟩
 .have e:K7 w 9=none:=by
   unfold K7;split
   .rename_i q h;exact absurd h (f q)
   .rfl
  rw[e];simp only[p,aG,kU,jU,jV,x1t,gR,dZ,gS,iS,cZ,cW];exact RetF.tup rfl ⟨n,rfl,λk a=>by cases a⟩
structure IntoN (m:Mem) (pid rid:Id) (pre:List AV) (vs:List Int):Prop where
 p:m.get pid=some (.row ((List.range vs.length).map λj=>AV.ptr rid 0 (pre.length+j)) 0 false)
 r:m.get rid=some (.row (pre++vs.map λv=>I v) 0 false)
 ne:pid≠rid
def xub(a:List AV):∀(b:List Int) (k:Nat) (d:k<b.length) (n:Int),cS (a++b.map λv=>I v) (a.length+k) [I n]=a++(b.set k n).map λv=>I v:=by intro b k d n;unfold cS;rw[List.take_append,dM (by omega),show a.length+k-a.length=k by omega,H1,lV (by simp;omega),iW,oI];congr 1;rw[show a.length+k+[I n].length-a.length=k+1 by simp;omega,<-MB,<-List.map_drop,em,aF d];simp
variable{pid rid:Id}{pre:List AV}
def xyp(d:Nat)(Z:FHs)(u:Nat){x:AV}{b:List (List UInt8)}(hx:Sl dC x b)(hw:∀w∈b,w.length<=100000):∀(r k:Nat) (a:List Int) (j:Nat) (m:Mem) (Y:Nat),k+r=a.length->a.length<=b.length->a.length<=1000->r<j->IntoN m pid rid pre a ->
    ∃y f,Y3 (aH (d+4)) Z u j x (.sref pid 0 0 a.length 1 true) (I a.length) (I k) m Y=some (B (eU 9 ((b.take a.length).drop k)).isSome,y)/\f.length=a.length/\y.get rid=some (.row (pre++f.map λv=>I v) 0 false)/\(∀l,eU 9 ((b.take a.length).drop k)=some l->f=a.take k++l)/\y.next=m.next/\∀j,j≠rid->y.get j=m.get j:=by
 intro r;induction r with
 |zero=>intro k a j m Y E e W C h;obtain⟨j,rfl⟩:∃i,j=i+1:=⟨j-1,by omega⟩;have A:¬((k:Int)<(a.length:Int)):=(by omega);have he:(b.take a.length).drop k=[]:=lV (by rw[oH];omega);simp only[Y3];unfold SJ uc;simp only[bV,A,bP,aG,aV];rw[he];exact⟨m,a,rfl,rfl,h.r,λl e=>by cases e;rw[iH,dM (by omega)],rfl,λ_ _=>rfl⟩
 |succ r ih=>
  intro k a j m Y E e W C h;obtain⟨j,rfl⟩:∃i,j=i+1:=⟨j-1,by omega⟩;have A:k<a.length:=(by omega);have hk':(k:Int)<(a.length:Int):=(by omega);have o:k<b.length:=(by omega);have F:k<(b.take a.length).length:=(by rw[oH];omega);have X:(b.take a.length).drop k=b[k]::(b.take a.length).drop (k+1):=(by rw[FZ F,V8]);have t:=hx.ix nA o;have H:=hw _ (fG o);rw[FZ o,dT]at t;simp only[dC,List.singleton_append]at t;have hp:aR 1 (.sref pid 0 0 a.length 1 true) (I k)=some (.ptr pid 0 k):=(by simp only[aR,dL];rw[aF ⟨by omega,by omega,trivial⟩];simp);have J:aA false 1 (.ptr pid 0 k) m=some (.ptr rid 0 (pre.length+k)):=(by rw[aQ h.p,FZ (by simpa using A)];simp);have w1:=iJ k (by omega);obtain⟨n,N,O⟩:=yw d H m;simp only[Y3];unfold SJ;simp only[bV,hk',bG,aG,aT,hp,J,t,w6,dE,N,kU,jU,jV];cases P:kF b[k] 9 with
  |none=>have D:eU 9 ((b.take a.length).drop k)=none:=(by rw[X,eU,P]);simp only[wV,gE,cF,aG,aT];rw[D];exact⟨m,a,rfl,rfl,h.r,λl e=>(by cases e),rfl,λ_ _=>rfl⟩
  |some q=>
   obtain rfl:n=q:=O q P;have L:∀{R:Type} (K:Mem->Option R),aU 1 (.ptr rid 0 (pre.length+k)) (I n) m K=K (m.set rid (.row (pre++(a.set k n).map λv=>I v) 0 false)):=λK=>by rw[lY (z:=1) (x:=I n) h.r rfl (by simp;omega) rfl];show K (m.set rid (.row (cS (pre++a.map λv=>I v) (pre.length+k) [I n]) 0 false))=_;rw[xub pre a k A n]
   simp only[Option.isSome_some,gE,cN,aG,aV,bZ,L,dY,w1];generalize g:m.set rid (.row (pre++(a.set k n).map λv=>I v) 0 false)=m2;have M:IntoN m2 pid rid pre (a.set k n):=⟨by rw[<-g,Mem.cP,aB h.ne,mS];exact h.p,by rw[<-g,Mem.cP,aF rfl],h.ne⟩;obtain⟨y,f,e1,e2,e3,e4,e5,e6⟩:=ih (k+1) (a.set k n) j m2 (Y+24) (by rw[mS];omega) (by rw[mS];exact e) (by rw[mS];exact W) (by omega) M;rw[mS]at e1 e2 e4;have D:eU 9 ((b.take a.length).drop k)=match eU 9 ((b.take a.length).drop (k+1))with|some l=>some (n::l)|none=>none:=by rw[X,eU,P];cases eU 9 ((b.take a.length).drop (k+1))<;>rfl
   refine⟨y,f,?_,e2,e3,λl e=>?_,by rw[e5,<-g];rfl,λj C=>by rw[e6 j C,<-g,Mem.cP,aB C]⟩
   .rw[e1,D];cases eU 9 ((b.take a.length).drop (k+1))<;>rfl
   .rw[D]at e;cases Q:eU 9 ((b.take a.length).drop (k+1))with
    |none=>rw[Q]at e;cases e
    |some l2=>rw[Q]at e;cases e;rw[e4 l2 Q,List.take_set,mI A,xh1 _ _ (by simp;omega)];simp;rw[show k-min k a.length=0 by omega];simp
def xcl:Id->Prop:=λid=>id.2.2=47
def xck:Id->Prop:=λid=>id.2.2=69
def SR(m:Mem)(a:Id)(S:List Scene)(P:List Pq):Prop:=∃v w,m.get a=some (.row [v,w] 0 false)/\Gk 3 Scene.c xcl m v S/\Gk 2 Pq.c xck m w P
def xn:d8=[AV.sc (.pointer none)]:=by kernel_rfl
def xc2{R:Type}(a:Id)(b d:Nat)(id:Id)(m:Mem)(K:AV->Mem->Option R):cQ d8 [(0,1,.ptr a 0 b),(1,1,.ptr a 0 d)] 2 1 id m K=K (.sref id 0 0 2 1 true) (m.new id (.row [.ptr a 0 b,.ptr a 0 d] 0 false)):=by rw[xn];rfl
def Sl.drop_strs{x:AV}{l:List (List UInt8)}{n:Nat}(e:x=.aN (l.flatMap dC) l.length false)(h:n<=l.length):∃y,eK prog iI x (some (I n)) none=some y/\Sl dC y (l.drop n):=by
 subst e;have f:∃i,prog.info? bK=some i/\i.size=1:=(by have d:(prog.info? bK).map (λi=>i.size)=some 1:=(by kernel_rfl);rw[cE]at d;exact d);obtain⟨j,a,b⟩:=f;have g:=IK l;refine⟨.aN ((l.flatMap dC).drop n) (l.length-n) false,?_,.inr ⟨false,?_⟩⟩
 .simp only[eK,dO,i',a,b,dL,Option.getD_some,Option.getD_none];rw[aF ⟨by omega,by omega,by omega,by omega⟩];congr 2
  .rw[hJ,dM (by rw[MD];omega),nS]
  .omega
 .rw[MD];congr 1;have:=yY nA l n;rwa[nS]at this
def SR.frame{m m':Mem}{d:Id}{S:List Scene}{P:List Pq}(h:SR m d S P)(g:m'.get d=m.get d)(f:∀j,xcl j\/xck j->m'.get j=m.get j):SR m' d S P:=by obtain⟨v,w,a,b,c⟩:=h;exact⟨v,w,by rw[g];exact a,b.frame λj e=>f j (.inl e),c.frame λj e=>f j (.inr e)⟩
theorem Scene.stl(s:Scene):s.c.all aP=true:=rfl
end Go.Ix
namespace Go.Ix
open Go.Proofs
variable{pid rid:Id}{pre:List AV}
def IC(d:Nat)(Z:FHs){x:AV}{f:List (List UInt8)}(t:Sl dC x f)(u:∀w∈f,w.length<=100000){m:Mem}{a:List Int}(y:a.length<=f.length)(A:a.length<=1000)(g:IntoN m pid rid pre a) :
    ∃e b,aH (d+5) Z qZ [x,.sref pid 0 0 a.length 1 true] m=some (B (eU 9 (f.take a.length)).isSome,e)/\b.length=a.length/\e.get rid=some (.row (pre++b.map λv=>I v) 0 false)/\(∀l,eU 9 (f.take a.length)=some l->b=l)/\e.next=m.next+1/\∀j,j≠rid->e.get j=m.get j:=by
 rw[x5x];unfold lg bA SI ub;simp only[show aM prog yg (.sref pid 0 0 a.length 1 true)=some (I a.length)from rfl,aG];have i:IntoN ⟨m.hp,m.next+1⟩ pid rid pre a:=⟨g.p,g.r,g.ne⟩;obtain⟨e,b,n,C,D,o,E,F⟩:=xyp d Z m.next t u a.length 0 a NN ⟨m.hp,m.next+1⟩ (0+1+3) (by omega) y A (by rw[dF];omega) i;rw[bC]at n o;exact⟨e,b,n,C,D,λl h=>by rw[o l h];rfl,E,F⟩
def kwS:List UInt8:=[115,99,101,110,101]
def kwP:List UInt8:=[112,97,105,114]
def ZX:List UInt8:=[99,111,114,114,101,99,116]
def ZV:List UInt8:=[108,101,118,101,108]
def ZW:List UInt8:=[99,111,110,102,105,114,109]
def ZU:List UInt8:=[99,108,111,115,101]
def jJ(k:List UInt8):Option (Int×Nat×FuncId):=
 if k=kwS then some (2,3,B3)else if k=kwP then some (2,4,B2)else if k=ZX then some (2,2,Q8)else
 if k=ZV then some (1,4,Q7)else if k=ZW then some (3,1,Q6)else if k=ZU then some (3,1,Q5)else none
def pJ(x:Int×Nat×FuncId):AV:=.agg [I x.1,I (x.2.1:Int),.clo x.2.2 []]
def frZ:AV:=.agg vE
def sI(k:List UInt8):Value:=.string ⟨k.toArray⟩
def xoa(k w:List UInt8):gO (sI k) (sI w)=decide (k=w):=by show(k.toArray == w.toArray)=_;rw[NH,beq_iff_eq,mR];simp
def D9:List (Value×AV):=[(sI kwS,pJ (2,3,B3)),(sI kwP,pJ (2,4,B2)),(sI ZX,pJ (2,2,Q8)),(sI ZV,pJ (1,4,Q7)),(sI ZW,pJ (3,1,Q6)),(sI ZU,pJ (3,1,Q5))]
def x1f(k:List UInt8):findKey (sI k) D9=(jJ k).map pJ:=by unfold D9 jJ;simp only[findKey,xoa,mR,apply_ite (Option.map pJ),Option.map_some,Option.map_none]
def x06:frZ.cells.length=3:=by kernel_rfl
def x04:frZ.cells.all AV.one=true:=by kernel_rfl
def br:vE.length=3:=by kernel_rfl
def bu(d:AV)(e:Mem):Option (AV×Mem):=
 (cO d 0).bind λf=>
 (cO d 1).bind λg=>
 dG vE (0,21,4) e λj h=>
 aU 3 j f h λa=>
 (aA true 3 j a).bind λi=>
 aU 3 (.ptr (0,0,2) 0 0) i a λb=>
 (fO true 3 (.ptr (0,0,2) 0 0) b).bind λr0=>
 some (AV.tup [r0,g],b)
def x03(d:Nat)(k:List UInt8):aH (d+1) [] vZ [Tx k] mem0=(some (AV.tup [(findKey (sI k) D9).getD frZ,B (findKey (sI k) D9).isSome])).bind λt=>bu t ⟨[(0,[(2,7,.map D9),(0,2,.row vE 0 false)])],1⟩:=by kernel_rfl
def x05:(bu (AV.tup [frZ,B false]) ⟨[(0,[(2,7,.map D9),(0,2,.row vE 0 false)])],1⟩).map (λp=>p.1)=some (.tup [frZ,B false]):=by kernel_rfl
def x02(r:Int)(n:Nat)(f:FuncId):(bu (AV.tup [pJ (r,n,f),B true]) ⟨[(0,[(2,7,.map D9),(0,2,.row vE 0 false)])],1⟩).map (λp=>p.1)=some (.tup [pJ (r,n,f),B true]):=by kernel_rfl
theorem x07(a:Id->Option Ob)(r:Int)(n:Nat)(f:FuncId):Go.Ix.frz a bI (.tup [pJ (r,n,f),B true])=some (.tup [pJ (r,n,f),B true]):=by rfl
def x08(a:Id->Option Ob):Go.Ix.frz a bI (.tup [frZ,B false])=some (.tup [frZ,B false]):=by kernel_rfl
def pK(k:List UInt8):AV:=((jJ k).map pJ).getD frZ
def U2(k:List UInt8):(pK k).cells.length=3/\(pK k).cells.all AV.one=true:=by
 unfold pK;cases jJ k with
 |none=>exact⟨x06,x04⟩
 |some x=>exact⟨rfl,rfl⟩
def WU(d:Nat)(k:List UInt8)(m:Mem):aI (aH (d+1)) vZ [Tx k] m=some (.tup [pK k,B (jJ k).isSome],m):=by
 have b:(aH (d+1) [] vZ [Tx k] mem0).map (λp=>p.1)=some (.tup [pK k,B (jJ k).isSome]):=by
  rw[x03,x1f];unfold pK;simp only[aG];cases jJ k with
  |none=>exact x05
  |some x=>obtain⟨r,n,f⟩:=x;exact x02 r n f
 obtain⟨p,g,h⟩:=cE.mp b;have e:∀a,Go.Ix.frz a bI (.tup [pK k,B (jJ k).isSome])=some (.tup [pK k,B (jJ k).isSome]):=by
  intro a;unfold pK;cases jJ k with
  |none=>exact x08 a
  |some x=>obtain⟨r,n,f⟩:=x;exact x07 a r n f
 unfold aI;rw[yW (l:=[Tx k]) _ rfl];simp only[g,h,e,Option.map_some,BQ (l:=[Tx k]) _ rfl];rfl
def kY{z:Nat}{cs:List AV}{x:AV}(b:x.cells.all AV.one=true)(d:x.cells.length=z)(f:cs.length=z)(id:Id)(m:Mem):∃M:Mem,M.next=m.next/\M.get id=some (.row x.cells 0 false)/\(∀j,j≠id->M.get j=m.get j) /\
    ∀{R:Type} (K:AV->Mem->Option R),(dG cs id m λt e=>aU z t x e (K t))=K (.ptr id 0 0) M:=by
 refine⟨(m.new id (.row cs 0 false)).set id (.row x.cells 0 false),rfl,Mem.uQ _ _ _,λj a=>?_,λK=>?_⟩
 .rw[Mem.cP,aB a,Mem.dH,aB a]
 .rw[kK,lY (by rw[Mem.dH,aF rfl]) d (by omega) b];have:cS cs 0 x.cells=x.cells:=(by unfold cS;rw[jM,iW,lV (by omega),iH]);rw[this]
def uN:List UInt8:=[102,105,120]
def lR(t:List UInt8):Int:=
 if 200<t.length then 8 else if 10∈t\/(cA t).2.2=false then 7 else if jJ (cA t).1=none/\(cA t).1≠uN then 15 else 0
def zg(d:Nat){t:List UInt8}(f:t.length<=100000)(m:Mem):aI (aH (d+6)) yF [Tx t] m=some (I (lR t),m):=by
 refine Ans.gA (m:=m) ?_ rfl rfl;unfold Ans;rw[x6c];unfold ml bW TE;rw[show(AV.sc (.string ⟨#[32]⟩))=Tx [32]from rfl,show(AV.sc (.string ⟨#[10]⟩))=Tx [10]from rfl,show(AV.sc (.string ⟨#[102,105,120]⟩))=Tx uN from rfl];have g:∀m,aI (aH (d+5)) vZ [Tx (cA t).1] m=_:=λm=>WU (d+4) (cA t).1 m
 simp only[mem0,ID d t f,aG,kU,jU,jV,g];obtain⟨M,-,-,-,i⟩:=kY (U2 (cA t).1).2 (U2 (cA t).1).1 br (0,0+15,6) ⟨[],0+1⟩;rw[i];unfold lR;simp only[mX,aG,iC];by_cases b:200<t.length
 .have c1':((t.length:Int) > 200):=(by omega);simp only[b,c1',bG,aT,cM];exact⟨_,rfl⟩
 have c1':¬((t.length:Int) > 200):=(by omega);have h:∀m,aI (aH (d+5)) N3 [Tx t,Tx [10]] m=some (B (decide ((10:UInt8)∈t)),m):=xl1 d t 10;simp only[b,c1',bP,aV,cT,h,aG,gR,dZ,gE];by_cases a:(10:UInt8)∈t
 .simp only[a,bG,iS,dX,bD,cZ,cN,aG,cW,aT,true_or,cM];exact⟨_,rfl⟩
 cases j:(cA t).2.2 with
 |false=>simp only[a,bP,iS,dX,bD,cZ,cF,aG,cW,aT,gE,or_true,cM];exact⟨_,rfl⟩
 |true=>
  simp only[a,bP,iS,dX,bD,cZ,cN,cF,aG,cW,aV,gE,or_self,Bool.true_eq_false,cT];cases l:jJ (cA t).1 with
  |some x=>simp only[Option.isSome_some,cN,aG,cZ,aV,reduceCtorEq,false_and,cT];exact⟨_,rfl⟩
  |none=>
   simp only[wV,cF,aG,bD,true_and];by_cases e:(cA t).1=uN
   .simp only[e,yn,aG,bG,cN,aV,ne_eq,not_true_eq_false,cT];exact⟨_,rfl⟩
   .simp only[e,yn,aG,bP,cF,aT,ne_eq,not_false_eq_true,cM];exact⟨_,rfl⟩
inductive Act10 where
 |scene (n:List UInt8) (d b:Int)
 |pair (p a b:List UInt8) (f:Int)
 |corr (s:List UInt8) (f:Int)
 |level (p s:List UInt8) (v e:Int)
 |conf (b:List UInt8)
 |clos (b:List UInt8)
def tv(l:List UInt8):Value:=.string ⟨l.toArray⟩
def Act10.v:Act10->AV
 | .scene n d b=>.sc (.iface HM (.agg [tv n,.int .i64 d,.int .i64 b].toArray))
 | .pair p a b f=>.sc (.iface HN (.agg [tv p,tv a,tv b,.int .i64 f].toArray))
 | .corr s f=>.sc (.iface HQ (.agg [tv s,.int .i64 f].toArray))
 | .level p s v e=>.sc (.iface HO (.agg [tv p,tv s,.int .i64 v,.int .i64 e].toArray))
 | .conf b=>.sc (.iface WL (tv b))
 | .clos b=>.sc (.iface WN (tv b))
def xw9(n:List UInt8)(d b:Int):nY prog HM (.agg [Tx n,I d,I b])=some (Act10.scene n d b).v:=by kernel_rfl
def xxa(p a b:List UInt8)(f:Int):nY prog HN (.agg [Tx p,Tx a,Tx b,I f])=some (Act10.pair p a b f).v:=by kernel_rfl
def xxd(s:List UInt8)(f:Int):nY prog HQ (.agg [Tx s,I f])=some (Act10.corr s f).v:=by kernel_rfl
def xxb(p s:List UInt8)(v e:Int):nY prog HO (.agg [Tx p,Tx s,I v,I e])=some (Act10.level p s v e).v:=by kernel_rfl
def xxc(b:List UInt8):nY prog WL (Tx b)=some (Act10.conf b).v:=by kernel_rfl
def xw8(b:List UInt8):nY prog WN (Tx b)=some (Act10.clos b).v:=by kernel_rfl
def vV(mk:Int->Int->Act10):Option (List Int)->Option Act10
 |some [d,e]=>some (mk d e)
 |_=>none
def vW(mk:Int->Act10):Option (List Int)->Option Act10
 |some [d]=>some (mk d)
 |_=>none
def xco{N:Option (List Int)}{p q:Int}(mk:Int->Int->Act10)(h:∀l,N=some l->[p,q]=l):(vV mk N).isSome=N.isSome/\∀x,vV mk N=some x->(mk p q).v=x.v:=by
 cases N with
 |none=>exact⟨rfl,λx h=>by cases h⟩
 |some l=>rw[<-h l rfl];exact⟨rfl,λx h=>by cases h;rfl⟩
def xcq{N:Option (List Int)}{p:Int}(mk:Int->Act10)(h:∀l,N=some l->[p]=l):(vW mk N).isSome=N.isSome/\∀x,vW mk N=some x->(mk p).v=x.v:=by
 cases N with
 |none=>exact⟨rfl,λx h=>by cases h⟩
 |some l=>rw[<-h l rfl];exact⟨rfl,λx h=>by cases h;rfl⟩
def JC:List (List UInt8)->Option Act10
 |[a,b,c]=>vV (.scene a) (eU 9 [b,c])
 |_=>none
def JD:List (List UInt8)->Option Act10
 |[a,b,c,d]=>vW (.pair a b c) (eU 9 [d])
 |_=>none
def JF:List (List UInt8)->Option Act10
 |[a,b]=>vW (.corr a) (eU 9 [b])
 |_=>none
def JE:List (List UInt8)->Option Act10
 |[a,b,c,d]=>vV (.level a b) (eU 9 [c,d])
 |_=>none
def YT:List (List UInt8)->Option Act10
 |[a]=>some (.conf a)
 |_=>none
def YS:List (List UInt8)->Option Act10
 |[a]=>some (.clos a)
 |_=>none
def Ext10(m a:Mem):Prop:=m.next<=a.next/\∀j:Id,j.1<m.next->a.get j=m.get j
def Ext10.refl(m:Mem):Ext10 m m:=⟨bO _,λ_ _=>rfl⟩
def Ext10.trans{a b c:Mem}(h:Ext10 a b)(k:Ext10 b c):Ext10 a c:=⟨iQ h.1 k.1,λj d=>by rw[k.2 j (fN d h.1),h.2 j d]⟩
def G6(d:Nat)(f:FuncId)(a:List (List UInt8))(r:Option Act10):Prop:=
 ∀(Z:FHs) (m:Mem),∃b v,aH d Z f [.aN (a.flatMap dC) a.length false] m=some (.tup [v,B r.isSome],b)/\(∀x,r=some x->v=x.v)/\Ext10 m b
def xjt(a:List UInt8):cY mV [(0,1,Tx a)]=some (.agg [Tx a,I 0,I 0]):=by kernel_rfl
def xjs(a:List UInt8):cY AG [(0,3,.agg [Tx a,I 0,I 0])]=some (.agg [Tx a,I 0,I 0]):=by kernel_rfl
def xjj:AG.length=3:=by kernel_rfl
def xc3{R:Type}(a:Id)(b:Nat)(id:Id)(m:Mem)(K:AV->Mem->Option R):cQ d8 [(0,1,.ptr a 0 b)] 1 1 id m K=K (.sref id 0 0 1 1 true) (m.new id (.row [.ptr a 0 b] 0 false)):=by rw[xn];rfl
def xpt(d:Nat){a b c:List UInt8}(Y:b.length<=100000)(hc:c.length<=100000):G6 (d+6) B3 [a,b,c] (JC [a,b,c]):=by
 intro Z m;rw[x56];unfold ma bW SW;have E:aR 1 (.aN ([a,b,c].flatMap dC) [a,b,c].length false) (I 0)=some (.aE [Tx a,Tx b,Tx c]):=rfl;have F:∀m,aA false 1 (.aE [Tx a,Tx b,Tx c]) m=some (Tx a):=λ_=>rfl
 obtain⟨y,C,r⟩:=Sl.drop_strs (l:=[a,b,c]) rfl (n:=1) (by simp);rw[show((1:Nat):Int)=1 from rfl]at C;obtain⟨M,N,O,P,Q⟩:=kY (z:=3) (cs:=AG) (x:=.agg [Tx a,I 0,I 0]) rfl rfl xjj (m.next,0+7,4) ⟨m.hp,m.next+1⟩;simp only[E,F,aG,xjt,xjs,Q,C,cX,xc2];generalize e:M.new (m.next,0+15,17) _=M2;have H:IntoN M2 (m.next,0+15,17) (m.next,0+7,4) [Tx a] [0,0]:=⟨by rw[<-e,Mem.dH,aF rfl];rfl,by rw[<-e,Mem.dH,aB (λh=>by simp[Prod.ext_iff]at h),O];rfl,λh=>by simp[Prod.ext_iff]at h⟩;obtain⟨o,i,J,R,K,L,W,X⟩:=IC d Z r (λw t=>by simp at t;rcases t with rfl|rfl<;>assumption) (by simp) (by simp) H;obtain⟨p,q,rfl⟩:∃p q,i=[p,q]:=by
  match i,R with
  |[p,q],_=>exact⟨p,q,rfl⟩
 have e1':aH (d+5) Z qZ [y,.sref (m.next,0+15,17) 0 0 2 1 true] M2=some (B (eU 9 [b,c]).isSome,o):=J;have e3':o.get (m.next,0+7,4)=some (.row [Tx a,I p,I q] 0 false):=K;have e4':∀l,eU 9 [b,c]=some l->[p,q]=l:=L;have ld:aA true 3 (.ptr (m.next,0+7,4) 0 0) o=some (.agg [Tx a,I p,I q]):=(by rw[aQ e3'];rfl);simp only[e1',aG,ld,xw9];have f:=xco (.scene a) e4';have A:JC [a,b,c]=vV (.scene a) (eU 9 [b,c]):=rfl;refine⟨o,(Act10.scene a p q).v,by rw[A,f.1],λx D=>f.2 x (by rw[<-A];exact D),?_⟩
 .refine⟨by rw[W,<-e];show _<=M.next+1;rw[N];simp;omega,λj u=>?_⟩;have g:∀{a b:Nat},j≠(m.next,a,b):=λh=>by rw[h]at u;simp at u
  rw[X j g,<-e,Mem.dH,aB g,P j g];rfl
def xju(a b c:List UInt8):cY AH [(0,1,Tx a),(1,1,Tx b),(2,1,Tx c)]=some (.agg [Tx a,Tx b,Tx c,I 0]):=by kernel_rfl
def xjl:AH.length=4:=by kernel_rfl
def xps(d:Nat){a b c e:List UInt8}(F:e.length<=100000):G6 (d+6) B2 [a,b,c,e] (JD [a,b,c,e]):=by
 intro Z m;rw[x55];unfold lz bW SV;have J:aR 1 (.aN ([a,b,c,e].flatMap dC) [a,b,c,e].length false) (I 0)=some (.aE [Tx a,Tx b,Tx c,Tx e]):=rfl;have K:aR 1 (.aN ([a,b,c,e].flatMap dC) [a,b,c,e].length false) (I 1)=some (.aE [Tx b,Tx c,Tx e]):=rfl;have L:aR 1 (.aN ([a,b,c,e].flatMap dC) [a,b,c,e].length false) (I 2)=some (.aE [Tx c,Tx e]):=rfl;have N:∀x r m,aA false 1 (.aE (x::r)) m=some x:=λ_ _ _=>rfl
 obtain⟨y,E,u⟩:=Sl.drop_strs (l:=[a,b,c,e]) rfl (n:=3) (by simp);rw[show((3:Nat):Int)=3 from rfl]at E;obtain⟨M,X,Y,hk,hM⟩:=kY (z:=4) (cs:=AH) (x:=.agg [Tx a,Tx b,Tx c,I 0]) rfl rfl xjl (m.next,0+12,4) ⟨m.hp,m.next+1⟩;have O:∀x,aW (tR (.aE x)) (some [],some [(m.next,0+12,4)])=true:=λ_=>rfl
 simp only[J,K,L,N,aG,xju,hM,E,cX,xc3,O,gD,cond_true];generalize f:M.new (m.next,0+17,19) _=M2;have P:IntoN M2 (m.next,0+17,19) (m.next,0+12,4) [Tx a,Tx b,Tx c] [0]:=⟨by rw[<-f,Mem.dH,aF rfl];rfl,by rw[<-f,Mem.dH,aB (λh=>by simp[Prod.ext_iff]at h),Y];rfl,λh=>by simp[Prod.ext_iff]at h⟩;obtain⟨t,o,Q,e2,R,W,e5,e6⟩:=IC d Z u (λw A=>by simp at A;rw[A];exact F) (by simp) (by simp) P;obtain⟨p,rfl⟩:∃p,o=[p]:=by
  match o,e2 with
  |[p],_=>exact⟨p,rfl⟩
 have e1':aH (d+5) Z qZ [y,.sref (m.next,0+17,19) 0 0 1 1 true] M2=some (B (eU 9 [e]).isSome,t):=Q;have e3':t.get (m.next,0+12,4)=some (.row [Tx a,Tx b,Tx c,I p] 0 false):=R;have e4':∀l,eU 9 [e]=some l->[p]=l:=W;have ld:aA true 4 (.ptr (m.next,0+12,4) 0 0) t=some (.agg [Tx a,Tx b,Tx c,I p]):=(by rw[aQ e3'];rfl);simp only[e1',aG,ld,xxa];have g:=xcq (.pair a b c) e4';have D:JD [a,b,c,e]=vW (.pair a b c) (eU 9 [e]):=rfl;refine⟨t,(Act10.pair a b c p).v,by rw[D,g.1],λx H=>g.2 x (by rw[<-D];exact H),?_⟩
 .refine⟨by rw[e5,<-f];show _<=M.next+1;rw[X];simp;omega,λj C=>?_⟩;have i:∀{a b:Nat},j≠(m.next,a,b):=λh=>by rw[h]at C;simp at C
  rw[e6 j i,<-f,Mem.dH,aB i,hk j i];rfl
def xjz(a:List UInt8):cY AK [(0,1,Tx a)]=some (.agg [Tx a,I 0]):=by kernel_rfl
def xjo:AK.length=2:=by kernel_rfl
def xpr(d:Nat){a e:List UInt8}(F:e.length<=100000):G6 (d+6) Q8 [a,e] (JF [a,e]):=by
 intro Z m;rw[x54];unfold ly bW SU;have J:aR 1 (.aN ([a,e].flatMap dC) [a,e].length false) (I 0)=some (.aE [Tx a,Tx e]):=rfl;have K:∀x r m,aA false 1 (.aE (x::r)) m=some x:=λ_ _ _=>rfl
 obtain⟨y,E,u⟩:=Sl.drop_strs (l:=[a,e]) rfl (n:=1) (by simp);rw[show((1:Nat):Int)=1 from rfl]at E;obtain⟨M,Q,R,W,X⟩:=kY (z:=2) (cs:=AK) (x:=.agg [Tx a,I 0]) rfl rfl xjo (m.next,0+6,4) ⟨m.hp,m.next+1⟩;simp only[J,K,aG,xjz,X,E,cX,xc3];generalize f:M.new (m.next,0+11,13) _=M2;have L:IntoN M2 (m.next,0+11,13) (m.next,0+6,4) [Tx a] [0]:=⟨by rw[<-f,Mem.dH,aF rfl];rfl,by rw[<-f,Mem.dH,aB (λh=>by simp[Prod.ext_iff]at h),R];rfl,λh=>by simp[Prod.ext_iff]at h⟩;obtain⟨t,o,N,Y,O,P,e5,e6⟩:=IC d Z u (λw A=>by simp at A;rw[A];exact F) (by simp) (by simp) L;obtain⟨p,rfl⟩:∃p,o=[p]:=by
  match o,Y with
  |[p],_=>exact⟨p,rfl⟩
 have e1':aH (d+5) Z qZ [y,.sref (m.next,0+11,13) 0 0 1 1 true] M2=some (B (eU 9 [e]).isSome,t):=N;have e3':t.get (m.next,0+6,4)=some (.row [Tx a,I p] 0 false):=O;have e4':∀l,eU 9 [e]=some l->[p]=l:=P;have ld:aA true 2 (.ptr (m.next,0+6,4) 0 0) t=some (.agg [Tx a,I p]):=(by rw[aQ e3'];rfl);simp only[e1',aG,ld,xxd];have g:=xcq (.corr a) e4';have D:JF [a,e]=vW (.corr a) (eU 9 [e]):=rfl;refine⟨t,(Act10.corr a p).v,by rw[D,g.1],λx H=>g.2 x (by rw[<-D];exact H),?_⟩
 .refine⟨by rw[e5,<-f];show _<=M.next+1;rw[Q];simp;omega,λj C=>?_⟩;have i:∀{a b:Nat},j≠(m.next,a,b):=λh=>by rw[h]at C;simp at C
  rw[e6 j i,<-f,Mem.dH,aB i,W j i];rfl
def xjw(a b:List UInt8):cY AJ [(0,1,Tx a),(1,1,Tx b)]=some (.agg [Tx a,Tx b,I 0,I 0]):=by kernel_rfl
def xjm:AJ.length=4:=by kernel_rfl
def xpq(d:Nat){a b c e:List UInt8}(hc:c.length<=100000)(he:e.length<=100000):G6 (d+6) Q7 [a,b,c,e] (JE [a,b,c,e]):=by
 intro Z m;rw[x53];unfold lu bW ST;have H:aR 1 (.aN ([a,b,c,e].flatMap dC) [a,b,c,e].length false) (I 0)=some (.aE [Tx a,Tx b,Tx c,Tx e]):=rfl;have J:aR 1 (.aN ([a,b,c,e].flatMap dC) [a,b,c,e].length false) (I 1)=some (.aE [Tx b,Tx c,Tx e]):=rfl;have K:∀x r m,aA false 1 (.aE (x::r)) m=some x:=λ_ _ _=>rfl
 obtain⟨y,E,u⟩:=Sl.drop_strs (l:=[a,b,c,e]) rfl (n:=2) (by simp);rw[show((2:Nat):Int)=2 from rfl]at E;obtain⟨M,R,W,X,Y⟩:=kY (z:=4) (cs:=AJ) (x:=.agg [Tx a,Tx b,I 0,I 0]) rfl rfl xjm (m.next,0+9,4) ⟨m.hp,m.next+1⟩;have L:∀x,aW (tR (.aE x)) (some [],some [(m.next,0+9,4)])=true:=λ_=>rfl
 simp only[H,J,K,aG,xjw,Y,E,cX,xc2,L,gD,cond_true];generalize f:M.new (m.next,0+15,17) _=M2;have N:IntoN M2 (m.next,0+15,17) (m.next,0+9,4) [Tx a,Tx b] [0,0]:=⟨by rw[<-f,Mem.dH,aF rfl];rfl,by rw[<-f,Mem.dH,aB (λh=>by simp[Prod.ext_iff]at h),W];rfl,λh=>by simp[Prod.ext_iff]at h⟩;obtain⟨t,o,O,e2,P,Q,e5,e6⟩:=IC d Z u (λw A=>by simp at A;rcases A with rfl|rfl<;>assumption) (by simp) (by simp) N;obtain⟨p,q,rfl⟩:∃p q,o=[p,q]:=by
  match o,e2 with
  |[p,q],_=>exact⟨p,q,rfl⟩
 have e1':aH (d+5) Z qZ [y,.sref (m.next,0+15,17) 0 0 2 1 true] M2=some (B (eU 9 [c,e]).isSome,t):=O;have e3':t.get (m.next,0+9,4)=some (.row [Tx a,Tx b,I p,I q] 0 false):=P;have e4':∀l,eU 9 [c,e]=some l->[p,q]=l:=Q;have ld:aA true 4 (.ptr (m.next,0+9,4) 0 0) t=some (.agg [Tx a,Tx b,I p,I q]):=(by rw[aQ e3'];rfl);simp only[e1',aG,ld,xxb];have g:=xco (.level a b) e4';have D:JE [a,b,c,e]=vV (.level a b) (eU 9 [c,e]):=rfl;refine⟨t,(Act10.level a b p q).v,by rw[D,g.1],λx F=>g.2 x (by rw[<-D];exact F),?_⟩
 .refine⟨by rw[e5,<-f];show _<=M.next+1;rw[R];simp;omega,λj C=>?_⟩;have i:∀{a b:Nat},j≠(m.next,a,b):=λh=>by rw[h]at C;simp at C
  rw[e6 j i,<-f,Mem.dH,aB i,X j i];rfl
def xpp(d:Nat)(a:List UInt8):G6 (d+6) Q6 [a] (YT [a]):=by
 intro Z m;rw[x52];unfold ln bW SS;have e:aR 1 (.aN ([a].flatMap dC) [a].length false) (I 0)=some (.aE [Tx a]):=rfl;have f:∀m,aA false 1 (.aE [Tx a]) m=some (Tx a):=λ_=>rfl
 simp only[e,f,aG,xxc];exact⟨_,_,rfl,λx b=>by cases b;rfl,uY _,λ_ _=>rfl⟩
def xpo(d:Nat)(a:List UInt8):G6 (d+6) Q5 [a] (YS [a]):=by
 intro Z m;rw[x51];unfold lm bW SQ;have e:aR 1 (.aN ([a].flatMap dC) [a].length false) (I 0)=some (.aE [Tx a]):=rfl;have f:∀m,aA false 1 (.aE [Tx a]) m=some (Tx a):=λ_=>rfl
 simp only[e,f,aG,xw8];exact⟨_,_,rfl,λx b=>by cases b;rfl,uY _,λ_ _=>rfl⟩
def SimO(o a:Option Ob):Prop:=a=o\/∃b v f,o=some (.row b v f)/\a=some (.row b v true)
def SimO.refl(o:Option Ob):SimO o o:=.inl rfl
def SimO.trans{a b c:Option Ob}(h:SimO a b)(k:SimO b c):SimO a c:=by
 rcases k with rfl|⟨cs,v,f,k1,k2⟩
 .exact h
 .rcases h with rfl|⟨cs',v',f',h1,h2⟩
  .exact .inr ⟨cs,v,f,k1,k2⟩
  .rw[h2]at k1;cases k1;exact .inr ⟨cs,v,f',h1,k2⟩
def lO(K:Id->Prop)(j:Id):Prop:=j.2.2=8\/j.2.2=11\/j.2.2=13\/K j
def oZ(K:Id->Prop)(j:Id):Prop:=¬lO K j/\j.2.2≠2
variable{K:Id->Prop}
def GrP(K P:Id->Prop)(m a:Mem):Prop:=m.next<=a.next/\∀j:Id,j.1<m.next->¬P j->SimO (m.get j) (a.get j)/\(lO K j->a.get j=m.get j)
abbrev Gr0(K:Id->Prop):=GrP K λ_=>False
def GrP.refl(P:Id->Prop)(m:Mem):GrP K P m m:=⟨bO _,λ_ _ _=>⟨.refl _,λ_=>rfl⟩⟩
def GrP.trans{P:Id->Prop}{a b c:Mem}(h:GrP K P a b)(k:GrP K P b c):GrP K P a c:=⟨iQ h.1 k.1,λj d e=>
 ⟨(h.2 j d e).1.trans (k.2 j (fN d h.1) e).1,λf=>by rw[(k.2 j (fN d h.1) e).2 f,(h.2 j d e).2 f]⟩⟩
def GrP.weak{P Q:Id->Prop}{a b:Mem}(h:GrP K P a b)(d:∀j,P j->Q j):GrP K Q a b:=⟨h.1,λj e f=>h.2 j e λq=>f (d j q)⟩
def GrP.jO{P L:Id->Prop}{a b:Mem}(h:GrP K P a b)(g:∀j,L j->K j):GrP L P a b:=⟨h.1,λj e f=>⟨(h.2 j e f).1,λd=>(h.2 j e f).2 (by
 rcases d with d|d|d|d
 .exact .inl d
 .exact .inr (.inl d)
 .exact .inr (.inr (.inl d))
 .exact .inr (.inr (.inr (g j d))))⟩⟩
def uF{m:Mem}(b:∀j,K j->j.1<m.next){id:Id}(h:m.next<=id.1)(Z:id.2.2≠8/\id.2.2≠11/\id.2.2≠13/\id.2.2≠2):oZ K id:=
 ⟨by rintro(a|a|a|a)<;>first|(have:=b _ a;omega)|omega,Z.2.2.2⟩
def Gr0.to{P:Id->Prop}{a b:Mem}(h:Gr0 K a b):GrP K P a b:=h.weak λ_ h=>h.elim
def Ext10.gr{a b:Mem}(h:Ext10 a b):Gr0 K a b:=⟨h.1,λj d _=>⟨.inl (h.2 j d),λ_=>h.2 j d⟩⟩
def rF(m:Mem):Gr0 K m ⟨m.hp,m.next+1⟩:=⟨uY _,λ_ _ _=>⟨.refl _,λ_=>rfl⟩⟩
def xey{a m:Mem}{P:Id->Prop}(h:GrP K P a m){id:Id}(b:a.next<=id.1)(o:Ob):GrP K P a (m.new id o):=⟨h.1,λj d e=>by
 rw[Mem.dH,aB (by rintro rfl;omega)];exact h.2 j d e⟩
def x0m{a m:Mem}{P:Id->Prop}(h:GrP K P a m){id:Id}(b:a.next<=id.1\/P id)(o:Ob):GrP K P a (m.set id o):=⟨h.1,λj e d=>by
 rw[Mem.cP,aB (by rintro rfl;rcases b with h|h;omega;exact d h)];exact h.2 j e d⟩
def jT{a m b:Mem}{P:Id->Prop}(h:GrP K P a m){id:Id}(d:a.next<=id.1\/P id)(f:b.next=m.next)(g:∀j,j≠id->b.get j=m.get j):GrP K P a b:=⟨by rw[f];exact h.1,λj i e=>by
 rw[g j (by rintro rfl;rcases d with h|h;omega;exact e h)];exact h.2 j i e⟩
def xex{m:Mem}{a:List Id}(h:∀i∈a,¬lO K i):Gr0 K m ⟨lH a m.hp,m.next⟩:=⟨bO _,λj _ _=>by
 by_cases b:j∈a
 .refine⟨?_,λd=>(h j b d).elim⟩
  show SimO (fK m.hp j) (fK (lH a m.hp) j)
  rw[congrFun (L1 a m.hp) j]
  unfold shut
  rw[aF b]
  cases e:fK m.hp j with
  |none=>exact .inl rfl
  |some o=>cases o<;>first|exact .inl rfl|exact .inr ⟨_,_,_,rfl,rfl⟩
 .rw[xnw b];exact⟨.refl _,λ_=>rfl⟩⟩
variable{α:Type}{z:Nat}{enc:α->List AV}
def Rk(K:Id->Prop)(z:Nat)(e:α->List AV)(m:Mem)(a:AV)(l:List α):Prop:=
 (a=nilS/\l=[])\/(∃x,a=.aN (l.flatMap e) l.length x)\/∃id f x b d,oZ K id/\id.1<m.next/\a=.sref id f 0 l.length z x/\m.get id=some (.row (l.flatMap e++d) f b)/\d.all aP=true
def Rk.gr{P:Id->Prop}{m e:Mem}{a:AV}{l:List α}(h:Rk K z enc m a l)(d:GrP K P m e)(g:∀j,oZ K j->¬P j):Rk K z enc e a l:=by
 rcases h with h|h|⟨id,ver,x,b,rest,h1,h2,h3,h4,h5⟩
 .exact .inl h
 .exact .inr (.inl h)
 .refine .inr (.inr ?_);rcases(d.2 id h2 (g id h1)).1 with he|⟨cs,v,f,e1,e2⟩
  .exact⟨id,ver,x,b,rest,h1,fN h2 d.1,h3,by rw[he];exact h4,h5⟩
  .rw[h4]at e1;cases e1;exact⟨id,ver,x,true,rest,h1,fN h2 d.1,h3,e2,h5⟩
def Rk.frz(j:∀x,(enc x).length=z)(Z:∀x,(enc x).all aP=true){m:Mem}{a:AV}{l:List α}(h:Rk K z enc m a l)(k:Nat):∃g,Go.Ix.frz m.get (k+2) a=some g/\Sl enc g l:=by
 rcases h with ⟨rfl,rfl⟩|⟨x,rfl⟩|⟨id,e,x,b,d,r,t,rfl,p,u⟩
 .exact⟨nilS,rfl,.inl ⟨rfl,rfl⟩⟩
 .exact⟨_,rfl,.inr ⟨x,rfl⟩⟩
 .have o:=gG j l;refine⟨.aN (l.flatMap enc) l.length false,?_,.inr ⟨false,rfl⟩⟩;have i:(l.flatMap enc++d).take (l.length*z)=l.flatMap enc:=by rw[<-o,List.take_left]
  have:=pI (aC:=m.get) (id:=id) (cs:=l.flatMap enc++d) (ver:=e) (off:=0) (n:=l.length) (z:=z) (k:=k) (f:=b) (x:=x) p (by rw[eA];omega) (by
   rw[bC,i];exact oD Z l)
  rw[bC,i]at this;exact this
def Rk.reach(Z:∀x,(enc x).all aP=true){m:Mem}{a:AV}{l:List α}(h:Rk K z enc m a l)(k:Nat):∀i∈Go.Ix.reach m.get (k+2) a,oZ K i:=by
 rcases h with ⟨rfl,rfl⟩|⟨x,rfl⟩|⟨id,f,x,b,e,g,o,rfl,j,n⟩
 .intro i d;cases d
 .intro i d;cases d
 .intro i d;rw[xbr j (by rw[MH,oD Z l,n];rfl),pS]at d;rw[d];exact g
def Rk.one{m:Mem}{a:AV}{l:List α}(h:Rk K z enc m a l):a.one=true/\a.cells=[a]:=by rcases h with ⟨rfl,rfl⟩|⟨x,rfl⟩|⟨id,e,x,b,d,f,g,rfl,i,j⟩<;>exact⟨rfl,rfl⟩
structure Lv10 where
 e:Int
 pt:Int
 sc:Int
 mv:Int
 er:Int
def Lv10.c(x:Lv10):List AV:=[I x.e,I x.pt,I x.sc,I x.mv,I x.er]
theorem Lv10.len(x:Lv10):x.c.length=5:=rfl
theorem Lv10.bB(x:Lv10):x.c.all aP=true:=rfl
structure St10 where
 L:List Scene
 S:List OPr
 V:List Lv10
 C:List Int
def FzP(K:Id->Prop)(m:Mem)(h P:List AV):Prop:=h=P\/∃w g i A a e x b n f d,h=[w,g,.sref a e 0 n 3 x,i,A]/\P=[w,g,.aN f n false,i,A]/\oZ K a/\a.1<m.next/\m.get a=some (.row (f++d) e b)/\f.length=n*3/\f.all aP=true/\d.all aP=true
def RowP(K:Id->Prop)(m:Mem)(a:Id)(P:List AV)(f:Bool):Prop:=∃b,m.get a=some (.row b 0 f)/\FzP K m b P
def RowP.of{m:Mem}{a:Id}{P:List AV}{f:Bool}(h:m.get a=some (.row P 0 f)):RowP K m a P f:=⟨P,h,.inl rfl⟩
def FzP.gr{Q:Id->Prop}{m d:Mem}{e P:List AV}(h:FzP K m e P)(a:GrP K Q m d)(i:∀j,Q j->lO K j):FzP K d e P:=by
 rcases h with h|⟨w,g,pa,A,bid,ver,x,b,n,cs,rest,h1,h2,h3,h4,h5,h6⟩
 .exact .inl h
 .rcases(a.2 bid h4 (λo=>h3.1 (i bid o))).1 with he|⟨cs',v',f',e1,e2⟩
  .exact .inr ⟨w,g,pa,A,bid,ver,x,b,n,cs,rest,h1,h2,h3,fN h4 a.1,by rw[he];exact h5,h6⟩
  .rw[h5]at e1;cases e1;exact .inr ⟨w,g,pa,A,bid,ver,x,true,n,cs,rest,h1,h2,h3,fN h4 a.1,e2,h6⟩
def RowP.gr{Q:Id->Prop}{m b:Mem}{P:List AV}{a:Id}{f:Bool}(h:RowP K m a P f)(Z:SimO (m.get a) (b.get a))(d:GrP K Q m b)(e:∀j,Q j->lO K j):∃g,RowP K b a P g:=by
 obtain⟨i,n,o⟩:=h;rcases Z with he|⟨cs',v',g,e1,e2⟩
 .exact⟨f,i,by rw[he];exact n,o.gr d e⟩
 .rw[n]at e1;cases e1;exact⟨true,i,e2,o.gr d e⟩
def FzP.frz{m:Mem}{j P:List AV}(h:FzP K m j P)(e:P.all aP=true)(k:Nat):j.mapM (Go.Ix.frz m.get (k+2))=some P:=by
 rcases h with rfl|⟨w,g,pa,A,bid,ver,x,b,n,cs,rest,rfl,rfl,h3,h4,h5,h6,h7,h8⟩
 .exact sF λa i=>uR m.get (k+1) (dJ.mp e a i)
 .have d:∀a,aP a=true->Go.Ix.frz m.get (k+2) a=some a:=λa i=>uR m.get (k+1) i
  simp only[dP,mT,cI]at e;have l:(cs++rest).take (n*3)=cs:=by rw[<-h6,List.take_left]
  have:=pI (aC:=m.get) (id:=bid) (cs:=cs++rest) (ver:=ver) (off:=0) (n:=n) (z:=3) (k:=k) (f:=b) (x:=x) h5 (by rw[eA];omega) (by
   rw[bC,l];exact h7)
  rw[bC,l]at this;simp only[eI,gX,d w e.1,d g e.2.1,d pa e.2.2.2.1,d A e.2.2.2.2.1,this];rfl
def FzP.reach{m:Mem}{f P:List AV}(h:FzP K m f P)(d:P.all aP=true)(k:Nat):∀i∈f.flatMap (Go.Ix.reach m.get (k+2)),oZ K i:=by
 rcases h with rfl|⟨w,g,pa,A,bid,ver,x,b,n,cs,rest,rfl,rfl,h3,h4,h5,h6,h7,h8⟩
 .intro i e;obtain⟨a,j,e⟩:=mK.mp e;rw[vO m.get (k+1) (dJ.mp d a j)]at e;cases e
 .intro i e;simp only[dP,mT,cI]at d;simp only[dT,xif,iH,iF,vO m.get (k+1) d.1,vO m.get (k+1) d.2.1,vO m.get (k+1) d.2.2.2.1,vO m.get (k+1) d.2.2.2.2.1,wY,false_or,or_false,xbr h5 (show(cs++rest).all aP=true by rw[MH,h7,h8];rfl),pS]at e;rw[e];exact h3
structure Bc (K:Id->Prop) (m:Mem) (P:List AV) (X:St10) (cs:List AV):Prop where
 ex:∃sid s p v c f,cs=[.ptr sid 0 0,s,p,v,c]/\sid.1<m.next/\((sid.2.2=2\/sid.2.2=1)/\¬K sid)/\RowP K m sid P f/\Rk K 3 Scene.c m s X.L/\(Rk K 4 OPr.c m p X.S/\(X.S=[]->p=nilS))/\Rk K 5 Lv10.c m v X.V/\Rk K 1 intE m c X.C
def Bc.gr{Q:Id->Prop}{m r:Mem}{P:List AV}{X:St10}{t:List AV}(h:Bc K m P X t)(b:GrP K Q m r)(e:∀j,Q j->lO K j):Bc K r P X t:=by
 obtain⟨a,s,p,v,c,f,y,u,n,A,C,w,D,E⟩:=h.ex;have d:∀j,oZ K j->¬Q j:=λj x g=>x.1 (e j g)
 have i:¬Q a:=λg=>by have:=e a g;unfold lO at this;rcases this with h|h|h|h<;>first|exact n.2 h|(have:=n.1;omega)
 obtain⟨F,o⟩:=A.gr (b.2 a u i).1 b e;exact⟨a,s,p,v,c,F,y,fN u b.1,n,o,C.gr b d,⟨w.1.gr b d,w.2⟩,D.gr b d,E.gr b d⟩
def Bk(K:Id->Prop)(m:Mem)(b:Id)(P:List AV)(X:St10):Prop:=lO K b/\b.1<m.next/\∃a,m.get b=some (.row a 0 false)/\Bc K m P X a
def Bk.gr{Q:Id->Prop}{m d:Mem}{P:List AV}{X:St10}{b:Id}(h:Bk K m b P X)(a:GrP K Q m d)(i:∀j,Q j->lO K j)(n:¬Q b):Bk K d b P X:=by obtain⟨e,g,o,p,r⟩:=h;exact⟨e,fN g a.1,o,by rw[(a.2 b g n).2 e];exact p,r.gr a i⟩
theorem wJ(x:Int):(intE x).length=1:=rfl
theorem C9(x:Int):(intE x).all aP=true:=rfl
theorem Scene.still10(x:Scene):x.c.all aP=true:=rfl
def Bc.frz{m:Mem}{E O:Int}{a b A:AV}(d:[a,b,A].all aP=true){X:St10}{g:List AV}(h:Bc K m (SC E O a b A) X g)(k:Nat):∃s p v c,g.mapM (Go.Ix.frz m.get (k+3))=some [.aE (SC E O a b A),s,p,v,c]/\Sl Scene.c s X.L/\Sl OPr.c p X.S/\Sl Lv10.c v X.V/\Ints c X.C:=by obtain⟨e,s,p,v,c,f,rfl,Z,h3,j,l,n,o,r⟩:=h.ex;obtain⟨t,u,w⟩:=l.frz Scene.len Scene.still10 (k+1);obtain⟨x,y,D⟩:=n.1.frz OPr.len OPr.bB (k+1);obtain⟨F,H,J⟩:=o.frz Lv10.len Lv10.bB (k+1);obtain⟨M,N,Q⟩:=r.frz wJ C9 (k+1);refine⟨t,x,F,M,?_,w,D,J,Q⟩;obtain⟨P0,R,W⟩:=j;have i:Go.Ix.frz m.get (k+3) (.ptr e 0 0)=some (.aE (SC E O a b A)):=rG R (W.frz (by show(true&&(true&&[a,b,A].all aP))=true;rw[d];rfl) k);simp only[eI,gX,i,u,y,H,N];rfl
def Bc.reach{m:Mem}{P:List AV}(g:P.all aP=true){X:St10}{d:List AV}(h:Bc K m P X d)(k:Nat):∀i∈d.flatMap (Go.Ix.reach m.get (k+3)),¬lO K i:=by
 obtain⟨b,s,p,v,c,f,rfl,A,j,n,o,r,t,u⟩:=h.ex;intro i a;obtain⟨w,x,y⟩:=n;have l:∀i∈Go.Ix.reach m.get (k+3) (.ptr b 0 0),i=b\/oZ K i:=by
  intro i a;have e:Go.Ix.reach m.get (k+3) (.ptr b 0 0)=b::(w.drop 0).flatMap (Go.Ix.reach m.get (k+2)):=by
   show(match m.get b with
    |some (.row d _ _)=>b::(d.drop 0).flatMap (Go.Ix.reach m.get (k+2))
    |_=>[b])=_
   rw[x]
  rw[e,bC]at a;rcases dW.mp a with h|h
  .exact .inl h
  .exact .inr (y.reach g k i h)
 simp only[dT,xif,iH,iF]at a;rcases a with a|a|a|a|a
 .rcases l i a with rfl|h
  .unfold lO;rintro(h|h|h|h)<;>first|exact j.2 h|(have:=j.1;omega)
  .exact h.1
 .exact(o.reach Scene.still10 (k+1) i a).1
 .exact(r.1.reach OPr.bB (k+1) i a).1
 .exact(t.reach Lv10.bB (k+1) i a).1
 .exact(u.reach C9 (k+1) i a).1
def Bk.ld{m:Mem}{b:Id}{P:List AV}{X:St10}(h:Bk K m b P X):∃a,m.get b=some (.row a 0 false)/\Bc K m P X a/\a.length=5/\a.all AV.one=true/\aA true 5 (.ptr b 0 0) m=some (.agg a):=by obtain⟨r,t,a,e,d⟩:=h;have h4':=d;obtain⟨i,s,p,v,c,f,rfl,-,-,-,j,l,n,o⟩:=d.ex;exact⟨_,e,h4',rfl,by simp[j.one,l.1.one,n.one,o.one];rfl,by rw[aQ e];rfl⟩
end Go.Ix
namespace Go.Ix
open Go.Proofs
variable{K:Id->Prop}{ba pa A:AV}{W:List Bd}{J:List Pn}{C:List Pe}{E O:Int}{m:Mem}{X:St10}{cs:List AV}
def Bc.frzA{P a:List AV}{s p v c:AV}(h:cs.mapM (Go.Ix.frz m.get 5)=some [.aE a,s,p,v,c])(x:ByteArray):[AV.agg cs,T x].mapM (Go.Ix.frz m.get bI)=some [.agg [.aE a,s,p,v,c],T x]:=by have b:Go.Ix.frz m.get bI (.agg cs)=some (.agg [.aE a,s,p,v,c]):=(by show(cs.mapM (Go.Ix.frz m.get 5)).map AV.agg=_;rw[h];rfl);have d:Go.Ix.frz m.get bI (T x)=some (T x):=kN _ 4 rfl;simp only[eI,gX,b,d];rfl
def df(d:Nat)(a:[ba,pa,A].all aP=true)(h:Bc K m (SC E O ba pa A) X cs)(f:X.L.length<=1000)(x:ByteArray):eO (aH (d+3)) wA [.agg cs,T x] m=some (I (idxQ (nmQ Scene.nm x) 0 X.L),m):=by obtain⟨s,p,v,c,e,b,g,i,j⟩:=h.frz a 2;obtain⟨n,l⟩:=xzg d (x:=x) (p:=.aE (SC E O ba pa A)) (pr:=p) (lv:=v) (cf:=c) b f rfl (by simp[b.one,g.one,i.one,Sl.one j]);exact wS (Bc.frzA (P:=SC E O ba pa A) e x) l rfl
def xgs(d:Nat)(a:[ba,pa,A].all aP=true)(h:Bc K m (SC E O ba pa A) X cs)(b:Sl Pn.c pa J)(f:J.length<=1000)(x:ByteArray):eO (aH (d+3)) wB [.agg cs,T x] m=some (I (idxQ (nmQ Pn.nm x) 0 J),m):=by obtain⟨s,p,v,c,e,g,i,j,l⟩:=h.frz a 2;obtain⟨o,n⟩:=xd0 d (x:=x) (E:=E) (O:=O) (ba:=ba) (A:=A) (sc:=s) (pr:=p) (lv:=v) (cf:=c) b f (by simp[g.one,i.one,j.one,Sl.one l]);exact wS (Bc.frzA (P:=SC E O ba pa A) e x) n rfl
def xgu(d:Nat)(a:[ba,pa,A].all aP=true)(h:Bc K m (SC E O ba pa A) X cs)(b:Sl Bd.c ba W)(f:W.length<=1000)(x:ByteArray):eO (aH (d+3)) wD [.agg cs,T x] m=some (I (idxQ (nmQ Bd.nm x) 0 W),m):=by obtain⟨s,p,v,c,e,g,i,j,l⟩:=h.frz a 2;obtain⟨o,n⟩:=xzo d (x:=x) (E:=E) (O:=O) (pa:=pa) (A:=A) (sc:=s) (pr:=p) (lv:=v) (cf:=c) b f (by simp[g.one,i.one,j.one,Sl.one l]);exact wS (Bc.frzA (P:=SC E O ba pa A) e x) n rfl
def HZ(d:Nat)(n:Int){K:Int}(a:0<=K/\K<=4611686018427387904)(m:Mem):aI (aH (d+2)) qW [I n,I K] m=some (B (wi n (-K) K),m):=by refine eZ rfl ?_ m;rw[xgn];unfold NA bA GS;have e:cG (-K)=-K:=bQ;simp[mem0,e,tK];exact RetF.st rfl rfl
variable{α:Type}{z:Nat}{enc:α->List AV}{t e:TypeId}
def Clp(b:α->List AV)(a:AV)(l:List α):Prop:=(a=nilS/\l=[])\/a=.aN (l.flatMap b) l.length true
def BH(d:∀x,(enc x).length=z)(f:prog.underlying t=some (.slice e))(g:∃i,prog.info? e=some i/\i.size=z)(j:nC prog t nilS none (I 0) (I 0)=some nilS){a:AV}{l:List α}(h:Sl enc a l) :
    ∃b,Clp enc b l/\nC prog t a none (I l.length) (I l.length)=some b:=by
 rcases h with ⟨rfl,rfl⟩|⟨x,rfl⟩
 .exact⟨nilS,.inl ⟨rfl,rfl⟩,j⟩
 .obtain⟨i,m,n⟩:=g;have o:=gG d l;refine⟨_,.inr rfl,?_⟩;simp only[nC,dO,f,m,n,dL,Option.getD_none];rw[aF ⟨by omega,by omega,by omega,trivial,by omega⟩];simp;rw[dM (by omega)]
def Clp.st{a:AV}{l:List α}(h:Clp enc a l):bB a=true:=by rcases h with ⟨rfl,rfl⟩|rfl<;>rfl
def Clp.app{R:Type}(d:∀x,(enc x).length=z){a:AV}{l:List α}(h:Clp enc a l){bytes:Nat}(e:bytes<=100)(g:l.length<=1000)(x:α)(id:Id)(m:Mem)(K:AV->Mem->Option R) :
    cJ z bytes id (some (enc x,1)) a m K=K (.sref id 0 0 (l.length+1) z true) (m.new id (.row ((l++[x]).flatMap enc) 0 false)):=by
 have b:∀n,n<=1001->cH n bytes:=λn i=>by unfold cH;have:(2*n+1000)*bytes<=(2*1001+1000)*100:=V6 (by omega) e;omega
 rcases h with ⟨rfl,rfl⟩|rfl
 .simp[cJ,b 1 (by omega)]
 .have f:=gG d l;simp only[cJ];rw[aF (by omega),aB (by omega),aF (b _ (by omega)),dM (by omega)];simp
def Bc.setL{P:List AV}{b:List AV}(h:Bc K m P X b){v:AV}{l:List Scene}(d:Rk K 3 Scene.c m v l):Bc K m P {X with L:=l} (cS b 1 [v]):=by obtain⟨a,s,p,w,c,f,rfl,e,g,i,r,j,n,o⟩:=h.ex;exact⟨a,v,p,w,c,f,rfl,e,g,i,d,j,n,o⟩
def Bc.setS{P:List AV}{b:List AV}(h:Bc K m P X b){v:AV}{l:List OPr}(d:Rk K 4 OPr.c m v l)(e:l=[]->v=nilS):Bc K m P {X with S:=l} (cS b 2 [v]):=by obtain⟨a,s,p,w,c,f,rfl,g,i,j,n,t,o,r⟩:=h.ex;exact⟨a,s,v,w,c,f,rfl,g,i,j,n,⟨d,e⟩,o,r⟩
def Bc.setV{P:List AV}{b:List AV}(h:Bc K m P X b){v:AV}{l:List Lv10}(d:Rk K 5 Lv10.c m v l):Bc K m P {X with V:=l} (cS b 3 [v]):=by obtain⟨a,s,p,w,c,f,rfl,e,g,i,j,n,r,o⟩:=h.ex;exact⟨a,s,p,v,c,f,rfl,e,g,i,j,n,d,o⟩
def Bc.setC{P:List AV}{b:List AV}(h:Bc K m P X b){v:AV}{l:List Int}(d:Rk K 1 intE m v l):Bc K m P {X with C:=l} (cS b 4 [v]):=by obtain⟨a,s,p,w,c,f,rfl,e,g,i,j,n,o,r⟩:=h.ex;exact⟨a,s,p,w,v,f,rfl,e,g,i,j,n,o,d⟩
def Bk.put{b:Id}{P:List AV}{l:St10}{M:Mem}{a:List AV}{k:Nat}{v:AV}(m:lO K b)(o:b.1<M.next)(p:M.get b=some (.row a 0 false))(r:k+1<=a.length)(e:v.cells=[v])(t:v.one=true)(h:Bc K M P l (cS a k [v])) :
    ∃d,(∀{R:Type} (K:Mem->Option R),aU 1 (.ptr b 0 k) v M K=K d)/\Bk K d b P l/\d.next=M.next/\(∀j,j≠b->d.get j=M.get j)/\d.get b=some (.row (cS a k [v]) 0 false):=by
 have u:GrP K (λj=>j=b) M (M.set b (.row (cS a k [v]) 0 false)):=x0m (P:=λj=>j=b) (.refl _ _) (.inr rfl) _;refine⟨M.set b (.row (cS a k [v]) 0 false),λK=>?_,⟨m,o,_,Mem.uQ _ _ _,h.gr u λj f=>by rw[f];exact m⟩,rfl,λj f=>by rw[Mem.cP,aB f],Mem.uQ _ _ _⟩;have g:v.cells.length=1:=(by rw[e];rfl);have i:v.cells.all AV.one=true:=(by rw[e];simp[t]);have n:=lY (z:=1) (x:=v) (k:=K) p g r i;rw[e]at n;exact n
def Bk.cells{b:Id}{P:List AV}{X:St10}(h:Bk K m b P X):∃a s p v c f,m.get b=some (.row [.ptr a 0 0,s,p,v,c] 0 false)/\Bc K m P X [.ptr a 0 0,s,p,v,c]/\a.1<m.next/\((a.2.2=2\/a.2.2=1)/\¬K a)/\RowP K m a P f/\Rk K 3 Scene.c m s X.L/\(Rk K 4 OPr.c m p X.S/\(X.S=[]->p=nilS))/\Rk K 5 Lv10.c m v X.V/\Rk K 1 intE m c X.C:=by obtain⟨g,i,cs,e,d⟩:=h;have h4':=d;obtain⟨a,s,p,v,c,f,rfl,h⟩:=d.ex;exact⟨a,s,p,v,c,f,e,h4',h⟩
def Rk.gA{call:aJ}{f:FuncId}{l:List α}{a:AV}{Q:AV->Prop}(n:∀x,(enc x).length=z)(Z:∀x,(enc x).all aP=true)(h:Rk K z enc m a l)(ex:List AV)(b:ex.all bB=true)(e:∀d,Sl enc d l->∃r,Q r/\∀m,aI call f (d::ex) m=some (r,m)):∃r M,Q r/\aI call f (a::ex) m=some (r,M)/\M.next=m.next/\Gr0 K m M:=by obtain⟨d,p,j⟩:=h.frz n Z 4;have o:(a::ex).mapM (Go.Ix.frz m.get bI)=some (d::ex):=(by have e1':Go.Ix.frz m.get bI a=some d:=p;rw[eI,e1',yW _ b];rfl);obtain⟨r,t,e⟩:=e d j;have:=de o (by rw[dP,j.bB,b];rfl) e;refine⟨r,_,t,this,rfl,xex λi g=>?_⟩;rw[dT,BQ _ b,iH]at g;exact(h.reach Z 4 i g).1
def FA{b:aJ}{f:FuncId}{l:List α}{a:AV}(j:∀x,(enc x).length=z)(Z:∀x,(enc x).all aP=true)(h:Rk K z enc m a l)(n:∀d,Sl enc d l->∃r g,Clp enc r l/\b [] f [d] mem0=some (r,g)):∃r M,Clp enc r l/\aI b f [a] m=some (r,M)/\M.next=m.next/\Gr0 K m M:=
 h.gA (ex:=[]) j Z rfl λd e=>by obtain⟨r,g,i,o⟩:=n d e;exact⟨r,i,λm=>Go.Ix.gA (by rw[dP,e.bB];rfl) o i.st⟩
def x29(d:Nat){a:AV}{l:List Scene}(h:Rk K 3 Scene.c m a l):∃r M,Clp Scene.c r l/\aI (aH (d+1)) Q1 [a] m=some (r,M)/\M.next=m.next/\Gr0 K m M:=
 FA Scene.len Scene.still10 h λi b=>by have e:nC prog jN nilS none (I 0) (I 0)=some nilS:=(by kernel_rfl);obtain⟨r,f,g⟩:=BH Scene.len lF xel e b;rw[x49];unfold jx bW RE;simp only[b.len lF,aG,g];exact⟨r,_,f,rfl⟩
def x0d:∃i,prog.info? HU=some i/\i.size=4:=by have:(prog.info? HU).map (·.size)=some 4:=(by kernel_rfl);rw[cE]at this;exact this
def x3a(d:Nat){a:AV}{l:List OPr}(h:Rk K 4 OPr.c m a l):∃r M,Clp OPr.c r l/\aI (aH (d+1)) CZ [a] m=some (r,M)/\M.next=m.next/\Gr0 K m M:=
 FA OPr.len OPr.bB h λi b=>by have e:nC prog mW nilS none (I 0) (I 0)=some nilS:=(by kernel_rfl);obtain⟨r,f,g⟩:=BH OPr.len vJ x0d e b;rw[x5a];unfold jy bW RF;simp only[b.len vJ,aG,g];exact⟨r,_,f,rfl⟩
def XB:prog.underlying l9=some (.slice HV):=by kernel_rfl
def x0e:∃i,prog.info? HV=some i/\i.size=5:=by have:(prog.info? HV).map (·.size)=some 5:=(by kernel_rfl);rw[cE]at this;exact this
def x27(d:Nat){a:AV}{l:List Lv10}(h:Rk K 5 Lv10.c m a l):∃r M,Clp Lv10.c r l/\aI (aH (d+1)) DA [a] m=some (r,M)/\M.next=m.next/\Gr0 K m M:=
 FA Lv10.len Lv10.bB h λi b=>by have e:nC prog l9 nilS none (I 0) (I 0)=some nilS:=(by kernel_rfl);obtain⟨r,f,g⟩:=BH Lv10.len XB x0e e b;rw[x5b];unfold jz bW RG;simp only[b.len XB,aG,g];exact⟨r,_,f,rfl⟩
def x0f:∃i,prog.info? eB=some i/\i.size=1:=by have:(prog.info? eB).map (·.size)=some 1:=(by kernel_rfl);rw[cE]at this;exact this
def x3b(d:Nat){a:AV}{l:List Int}(h:Rk K 1 intE m a l):∃r M,Clp intE r l/\aI (aH (d+1)) CY [a] m=some (r,M)/\M.next=m.next/\Gr0 K m M:=
 FA wJ C9 h λi b=>by have e:nC prog fA nilS none (I 0) (I 0)=some nilS:=(by kernel_rfl);obtain⟨r,f,g⟩:=BH wJ jA x0f e b;rw[x48];unfold jv bW RD;simp only[b.len jA,aG,g];exact⟨r,_,f,rfl⟩
end Go.Ix
namespace Go.Ix
open Go.Proofs
variable{K:Id->Prop}{ba pa A:AV}{W:List Bd}{J:List Pn}{C:List Pe}{E O:Int}{m:Mem}{X:St10}{cs:List AV}
def kR{x:AV}(h:x.cells.all AV.one=true)(id:Id)(m:Mem):∃M:Mem,M.next=m.next/\M.get id=some (.row x.cells 0 false)/\(∀j,j≠id->M.get j=m.get j)/\∀{R:Type} (K:AV->Mem->Option R),dB x id m K=K (.ptr id 0 0) M:=by refine⟨m.new id (.row x.cells 0 false),rfl,by rw[Mem.dH,aF rfl],λj a=>by rw[Mem.dH,aB a],λK=>?_⟩;unfold dB;rw[aF h]
def rJ{j i:Id}{v o:Nat}(h:j≠i):aW (tR (.ptr j v o)) (some [],some [i])=true:=by simp[aW,tR,kX,h]
def FE{j i:Id}{v o a b:Nat}(h:j≠i):aW (tR (.ptr j v o)) (tS (.ptr i a b))=true:=by simp[aW,tR,tS,kX,h]
def SimO.row{m a:Mem}{j:Id}{cs:List AV}{v:Nat}{f:Bool}(h:SimO (m.get j) (a.get j))(b:m.get j=some (.row cs v f)):∃d,a.get j=some (.row cs v d):=by
 rcases h with e|⟨cs',v',d,e1,e2⟩
 .exact⟨f,by rw[e];exact b⟩
 .rw[b]at e1;cases e1;exact⟨true,e2⟩
def JI{α:Type}{z bytes k:Nat}{a:α->List AV}(F:∀x,(a x).length=z)(H:bytes<=100){g M:Mem}{b:Id}{P:List AV}{X w:St10}{l:List α}{r:AV}(i:Bk K g b P X)(J:Gr0 K g M)(L:Clp a r l)(N:l.length<=1000)(hk:k<5){id:Id}(y:oZ K id)(O:id.1<M.next)(Q:g.next<=id.1)(x:α)(rE:∀(t:Mem) (v:AV) (d:List AV),Bc K t P X d->Rk K z a t v (l++[x])->Bc K t P w (cS d k [v])) :
    ∃f,(∀{R:Type} (K:AV->Mem->Option R),(cJ z bytes id (some (a x,1)) r M λv m=>aU 1 (.ptr b 0 k) v m (K v))=K (.sref id 0 0 (l.length+1) z true) f)/\Bk K f b P w/\GrP K (λj=>j=b) g f/\f.get id=some (.row ((l++[x]).flatMap a) 0 false)/\f.next=M.next/\∀d,g.get b=some (.row d 0 false)->f.get b=some (.row (cS d k [.sref id 0 0 (l.length+1) z true]) 0 false):=by
 have n:b≠id:=λh=>y.1 (by rw[<-h];exact i.1)
 obtain⟨d,C,c2,c3,c4,c5⟩:=i.ld;generalize p:M.new id (.row ((l++[x]).flatMap a) 0 false)=M1;have A:M1.next=M.next:=(by rw[<-p];rfl);have o:M1.get id=some (.row ((l++[x]).flatMap a) 0 false):=(by rw[<-p,Mem.dH,aF rfl]);have e:Gr0 K g M1:=(by rw[<-p];exact xey J Q _);have Y:M1.get b=some (.row d 0 false):=(by rw[(e.2 b i.2.1 (λh=>h)).2 i.1];exact C);have Z:Rk K z a M1 (.sref id 0 0 (l.length+1) z true) (l++[x]):=.inr (.inr ⟨id,0,true,false,[],y,by rw[A];exact O,by rw[eA];rfl,by rw[iH];exact o,rfl⟩);have u:Bc K M1 P X d:=c2.gr e (λ_ h=>h.elim);obtain⟨f,e1,e2,D,E,e5⟩:=Bk.put i.1 (fN i.2.1 e.1) Y (k:=k) (by omega) rfl rfl (rE M1 _ d u Z);refine⟨f,λK=>?_,e2,jT e.to (.inr rfl) D E,by rw[E id (Ne.symm n)];exact o,by rw[D,A],λW h=>by rw[C]at h;cases h;exact e5⟩;rw[L.app F H N x id M,p,e1]
def smP(x y:OPr):Bool:=decide (y.pt=x.pt)&&decide (y.a=x.a)&&decide (y.b=x.b)
def xN(x y:Lv10):Bool:=decide (y.pt=x.pt)&&decide (y.sc=x.sc)
def aq{α:Type}(q:α->Bool)(l:List α):decide (0<=idxQ q 0 l)=l.any q:=by
 rcases D3 q l 0 with ⟨h,b⟩|⟨i,h,d,e⟩
 .rw[h];have:l.any q=false:=(by rw[GA];intro x a;rw[b x a];simp);rw[this];rfl
 .rw[h];have:l.any q=true:=H2.mpr ⟨_,fG d,e⟩;rw[this];simp
def xzn(d:Nat){a:AV}{S:List OPr}(h:Sl OPr.c a S)(y:S.length<=1000)(x:OPr):∃i,aH (d+3) [] P7 [a,.clo pC [.aE x.c]] mem0=some (B (S.any (smP x)),i):=by
 have j:∃i,aH (d+2) [] P3 [a,.clo pC [.aE x.c]] mem0=some (I (idxQ (smP x) 0 S),i):=by
  obtain⟨i,r⟩:=T4 OPr.len (by omega) (q:=smP x) h (by omega) (call:=aH (d+1)) (Z:=[]) (fv:=.clo pC [.aE x.c]) (λe _ m=>by
   show ∃i,aH (d+1) [] pC ([.agg e.c]++[.aE x.c]) m=_
   rw[iY,iW,x5n]
   unfold ko bA RU
   obtain⟨M,-,g,-,w⟩:=kR (x:=.agg e.c) (V3 (show e.c.all AV.one=true from rfl)) (m.next,0,2) ⟨m.hp,m.next+1⟩
   have g':M.get (m.next,0,2)=some (.row [I e.pt,I e.a,I e.b,I e.f] 0 false):=g
   have p:aD 0 (.aE x.c)=some (.aE [I x.pt,I x.a,I x.b,I x.f]):=rfl
   have t:aD 1 (.aE x.c)=some (.aE [I x.a,I x.b,I x.f]):=rfl
   have u:aD 2 (.aE x.c)=some (.aE [I x.b,I x.f]):=rfl
   simp only[w,cX,aG,bR,aQ g',bC,dE,p,t,u,w6,iD,dZ]
   unfold smP
   by_cases n:e.pt=x.pt
   .by_cases o:e.a=x.a
    .simp[n,o,g']
    .simp[n,o,g']
   .simp[n]) (MN (aH (d+1)) [] 0) (λ_ _ _ _ _ _ _=>rfl) S 0 NN ⟨[],1⟩ 4 rfl (by rw[dF];omega)
  refine⟨i,?_⟩;rw[x4t];unfold jg bA QM sq;simp only[h.len vJ,aG,mem0];exact r
 obtain⟨i,j⟩:=j;have l:∀m,eO (aH (d+2)) P3 [a,.clo pC [.aE x.c]] m=some (I (idxQ (smP x) 0 S),m):=λm=>LF (by rw[dP,h.bB];rfl) j rfl
 rw[x41];unfold jo bA QW;simp only[l,aG,vL,mem0];rw[<-aq];exact⟨_,rfl⟩
def xjv(i a b f:Int):cY pX [(0,1,I i),(1,1,I a),(2,1,I b),(3,1,I f)]=some (.agg [I i,I a,I b,I f]):=by kernel_rfl
def xo:pX.length=4:=by kernel_rfl
def xx3{R:Type}(x:OPr)(id:Id)(m:Mem)(K:AV->Mem->Option R):cQ pX [(0,4,.agg x.c)] 1 4 id m K=K (.aN x.c 1 true) m:=by rw[ya];rfl
def sV(J:List Pn)(X:St10)(p a b:List UInt8)(f:Int):Int×St10:=
 let x:OPr:=⟨idxQ (nmQ Pn.nm ⟨p.toArray⟩) 0 J,idxQ (nmQ Scene.nm ⟨a.toArray⟩) 0 X.L,idxQ (nmQ Scene.nm ⟨b.toArray⟩) 0 X.L,f⟩
 if x.pt<0\/x.a<0\/x.b<0 then(6,X)else if x.b<=x.a then(9,X)else if X.S.any (smP x)=true then(28,X)else if wi f (-100000) 100000=false then(2,X)else(0,{X with S:=X.S++[x]})
def x2c(d:Nat)(Z:FHs)(hK:∀j,K j->j.1<m.next)(y:[ba,pa,A].all aP=true)(hp:Sl Pn.c pa J)(Y:J.length<=1000){b:Id}(g:Bk K m b (SC E O ba pa A) X)(hL:X.L.length<=1000)(hS:X.S.length<=1000)(p a c:List UInt8)(f n:Int) :
    ∃N,aH (d+4) Z DF [.agg [Tx p,Tx a,Tx c,I f],.ptr b 0 0,I n] m=some (I (sV J X p a c f).1,N)/\GrP K (λj=>j=b) m N/\Bk K N b (SC E O ba pa A) (sV J X p a c f).2:=by
 rw[x5o];unfold kp RV;obtain⟨Q,n1,g1,k1,hM1⟩:=kR (x:=.agg [Tx p,Tx a,Tx c,I f]) rfl (m.next,0,3) ⟨m.hp,m.next+1⟩;have t:Gr0 K m Q:=jT (rF m) (.inl (bO _)) n1 k1;have g1':Q.get (m.next,0,3)=some (.row [Tx p,Tx a,Tx c,I f] 0 false):=g1;obtain⟨F,s,q,v,w,fl,r1,r2,r3,r4,r5,r6,r7,r8,r9⟩:=g.cells;have rb:∀{M:Mem},Gr0 K m M->M.get b=some (.row [.ptr F 0 0,s,q,v,w] 0 false):=λh=>by rw[(h.2 b g.2.1 (λh=>h)).2 g.1];exact r1
 have r2':=r2.gr t (λ_ h=>h.elim);have l5:aA true 5 (.ptr b 0 0) Q=some (.agg [.ptr F 0 0,s,q,v,w]):=(by rw[aQ (rb t)];rfl);have nb:bZ (.ptr b 0 0)=some (.ptr b 0 0):=rfl;have cp:=λx=>xgs d y r2' hp Y x
 have cc:=λx=>df d y r2' hL x
 unfold sV;generalize R:(⟨idxQ (nmQ Pn.nm ⟨p.toArray⟩) 0 J,idxQ (nmQ Scene.nm ⟨a.toArray⟩) 0 X.L,idxQ (nmQ Scene.nm ⟨c.toArray⟩) 0 X.L,f⟩:OPr)=x;have x1:idxQ (nmQ Pn.nm ⟨p.toArray⟩) 0 J=x.pt:=(by rw[<-R]);have x2:idxQ (nmQ Scene.nm ⟨a.toArray⟩) 0 X.L=x.a:=(by rw[<-R]);have x3:idxQ (nmQ Scene.nm ⟨c.toArray⟩) 0 X.L=x.b:=(by rw[<-R]);have x4:x.f=f:=(by rw[<-R]);obtain⟨l,n2,g2,k2,hM2⟩:=kY (z:=4) (cs:=pX) (x:=.agg [I x.pt,I x.a,I x.b,I f]) rfl rfl xo (m.next,23,7) Q;have e:Gr0 K m l:=jT t (.inl (bO _)) n2 k2;have g2':l.get (m.next,23,7)=some (.row [I x.pt,I x.a,I x.b,I f] 0 false):=g2;have C:b.1<m.next:=g.2.1;have D:∀{i j:Nat},b≠(m.next,i,j):=λh=>by rw[h]at C;simp at C
 have a1:aW (tR (.ptr b 0 0)) (some [],some [(m.next,23,7)])=true:=rJ D;have a2:∀o,aW (tR (.ptr (m.next,0,3) 0 o)) (some [],some [(m.next,23,7)])=true:=λo=>rJ (λh=>by simp[Prod.ext_iff]at h)
 simp only[hM1,nb,aG,l5,cX,bR,aQ g1',bC,dR,dE,cp,cc,x1,x2,x3,xjv,hM2,a1,a2,gD,xF,bD];have r7':=r7.1.gr e (λj _ h=>h.elim);have lq:aA false 1 (.ptr b 0 (1+1)) l=some q:=(by rw[aQ (rb e)];rfl);simp only[aQ g2',bC,dE,aG,bV,dZ];by_cases W:x.pt<0
 .simp only[W,bG,dX,cN,cZ,aG,cW,bD,aT,true_or,cM];exact⟨_,rfl,e.to,g.gr e (λ_ h=>h.elim) (λh=>h)⟩
 by_cases c2:x.a<0
 .simp only[W,c2,bG,bP,dX,cN,cF,cZ,aQ g2',bC,dR,dE,bV,aG,cW,bD,aT,true_or,or_true,cM];exact⟨_,rfl,e.to,g.gr e (λ_ h=>h.elim) (λh=>h)⟩
 by_cases c3:x.b<0
 .simp only[W,c2,c3,bG,bP,dX,cF,cZ,aQ g2',bC,dR,dE,bV,aG,cW,bD,aT,or_true,cM];exact⟨_,rfl,e.to,g.gr e (λ_ h=>h.elim) (λh=>h)⟩
 simp only[W,c2,c3,bP,dX,cF,bD,cZ,aQ g2',bC,dR,dE,bV,aG,cW,aV,or_self,cT,vL];by_cases P:x.b<=x.a
 .have c4':x.a ≥ x.b:=P;simp only[P,bG,aT,cM];exact⟨_,rfl,e.to,g.gr e (λ_ h=>h.elim) (λh=>h)⟩
 have c4':¬(x.a ≥ x.b):=P;obtain⟨q',q1,q2⟩:=r7'.frz OPr.len OPr.bB 4;obtain⟨mq,hcf⟩:=xzn (d+0) q2 hS x;have hcl:Go.Ix.frz l.get bI (.clo pC [.ptr (m.next,23,7) 0 0])=some (.clo pC [.aE x.c]):=(by have f2:Go.Ix.frz l.get 5 (.ptr (m.next,23,7) 0 0)=some (.aE x.c):=rG (cs':=x.c) g2' (by rw[<-x4];rfl);show([AV.ptr (m.next,23,7) 0 0].mapM (Go.Ix.frz l.get 5)).map (AV.clo pC)=_;simp only[eI,gX,f2];rfl);have q1':Go.Ix.frz l.get bI q=some q':=q1;have hcf':eO (aH (d+3)) P7 [q,.clo pC [.ptr (m.next,23,7) 0 0]] l=some (B (X.S.any (smP x)),l):=
  wS (by simp only[eI,gX,q1',hcl];rfl) hcf rfl
 simp only[P,bP,aV,cT,lq,aG,hcf'];cases c5:X.S.any (smP x)with
 |true=>simp only[aT,cM];exact⟨_,rfl,e.to,g.gr e (λ_ h=>h.elim) (λh=>h)⟩
 |false=>
 have hsm:=λm=>HZ (d+1) f (K:=100000) (by omega) m
 simp only[aV,fH,cT,aQ g2',bC,dR,dE,aG,hsm,gE];cases c6:wi f (-100000) 100000 with
 |false=>simp only[cF,aT,cM];exact⟨_,rfl,e.to,g.gr e (λ_ h=>h.elim) (λh=>h)⟩
 |true=>
 obtain⟨r,M3,hr,u,n3,g3⟩:=x3a (d+2) r7';have gr4:Gr0 K m M3:=e.trans g3;obtain⟨fl2,H⟩:=SimO.row (g3.2 (m.next,23,7) (by rw[n2,n1];exact mH _) (λh=>h)).1 g2';have ldx:aA true 4 (.ptr (m.next,23,7) 0 0) M3=some (.agg x.c):=(by rw[aQ H,<-x4];rfl);have hN:(m.next,67,71).1<M3.next:=(by rw[n3,n2,n1];exact mH _);obtain⟨M4,hM4,hB4,hG4,-,-⟩:=JI OPr.len (bytes:=32) (by omega) g gr4 hr hS (k:=2) (by omega) (id:=(m.next,67,71)) (uF hK (bO _) (by simp)) hN (bO _) x (λN v cs h1 h2=>h1.setS h2 (by simp));have hel:elems M3.get 4 (.aN x.c 1 true)=some (x.c,1):=rfl;have a3:aW (tR (.ptr b 0 (1+1))) (some [],some [(m.next,66,70)])=true:=rJ D;simp only[cN,aV,Bool.true_eq_false,cT,lq,aG,u,ldx,xx3,hel,hM4,a3,bD];exact⟨M4,rfl,hG4,hB4⟩
end Go.Ix
