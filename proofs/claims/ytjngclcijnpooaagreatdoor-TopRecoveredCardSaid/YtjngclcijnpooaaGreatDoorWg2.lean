import Derived.Test.YtjngclcijnpooaaGreatDoorWg1
set_option maxRecDepth 10000
set_option linter.all false
open Go.Proofs.Tryz
noncomputable section
namespace Go.Ix
open Go.Proofs
def Gk.sl1{ok:Id->Prop}{m:Mem}{a:AV}{l:List Int}(h:Gk 1 intE ok m a l)(k:Nat):∃b,Ints b l/\Go.Ix.frz m.get (k+2) a=some b:=h.frz fL wP
def pO(t:Nat):Id->Prop:=λid=>id.1=0/\id.2.2=t
def kL(n:Nat)(P:List Pq)(F:List Int):List Int:=joinsM (freshM n) (prs P F)
def xb5{n:Nat}{P:List Pq}{F:List Int}(h:Rng n P F):Lab n (kL n P F):=(Lab.fresh n).joins λp a=>by obtain⟨i,b,rfl⟩:=fR.mp a;exact(h i b).2
def Rng.take{n:Nat}{P:List Pq}{F:List Int}(h:Rng n P F)(k:Nat):Rng n P (F.take k):=λi a=>h i (tK a)
def xp3{n:Nat}{P:List Pq}{F:List Int}{k:Nat}(a:k<F.length):kL n P (F.take (k+1))=jM (kL n P (F.take k)) (cO P (at0 F k)):=by unfold kL prs;rw[mS a,nN,xg4,fH a];rfl
structure Right7 (l:List Scene) (P:List Pq):Prop where
 ll:l.length<=60
 ib:InB l
 pl:P.length<=200
 pr:∀p∈P,PqIn l.length p
 nd:P.Nodup
def xeo{n:Int}{P:List Pq}:∀(d:List Pq) (k:Nat),P.drop k=d->(B7 n P k d).2=0->(∀p∈d,(0<=p.a/\p.a<p.b)/\p.b<n)/\((P.take k).Nodup->P.Nodup)
 |[],k,i,_=>⟨λp g=>(by cases g),λh=>by
  have:P.length<=k:=gF.mp i
  rwa[dT this]at h⟩
 |x::r,k,i,h=>by
  obtain⟨w,y,i⟩:=gB i;simp only[B7]at h;cases f:wi x.a 0 (n-1)with
  |false=>simp[f]at h
  |true=>
   cases j:wi x.b 0 (n-1)with
   |false=>simp[f,j]at h
   |true=>
    by_cases m:x.b<=x.a
    .simp[f,j,m]at h
    .cases l:(P.take k).any λq=>q.same x with
     |true=>simp[f,j,m,l]at h
     |false=>
      simp[f,j,m,l]at h;obtain⟨A,C⟩:=xeo r (k+1) i h;refine⟨λp g=>?_,λt=>C ?_⟩
      .have:=y6 f;have:=y6 j;rcases dV.mp g with rfl|g
       .omega
       .exact A p g
      .rw[mS w,l9];refine⟨t,by simp,λa u b o e=>?_⟩;simp at o;rw[HX]at l;have:=l a u;rw[e,o,y,Pq.same_self]at this;exact this rfl
def x0x{l:List Scene}{P:List Pq}(h:(uP l P).2=0):Right7 l P:=by
 unfold uP at h;by_cases a:(sE l).2=0
 .obtain⟨e,f⟩:=xdf a;simp[a]at h;by_cases b:200<P.length
  .simp[b]at h
  .simp[b]at h;obtain⟨g,i⟩:=xeo P 0 rfl h;exact⟨e,f,by omega,λp d=>by have:=g p d;exact⟨by omega,by omega,by omega⟩,i (by simp)⟩
 .simp[a]at h
def Right7.at{l:List Scene}{P:List Pq}(h:Right7 l P){i:Int}(a:0<=i/\i<P.length):PqIn l.length (cO P i):=LT h.pr a
end Go.Ix
namespace Go.Ix
variable{P:List Pq}{n:Nat}
def uA(a:Int->Int):List Sp->Int
 |[]=>0
 |x::r=>x.s*a x.p+uA a r
def PotS(P:List Pq)(F:List Int)(ph φ:Int->Int):Prop:=∀i∈F,φ (cO P i).b-φ (cO P i).a=ph i
def PotS.step{F:List Int}{ph φ:Int->Int}(h:PotS P F ph φ){x:Sp}(a:kI F x):x.s*ph x.p=φ (cZ P x)-φ (eW P x):=by have:=h x.p a.1;unfold cZ eW;rcases a.2 with e|e<;>rw[e]<;>simp<;>omega
def PotS.walk{F:List Int}{ph φ:Int->Int}(h:PotS P F ph φ):∀{w:List Sp} {a b:Int},Wk P w a b->AllF F w->uA ph w=φ b-φ a
 |[],a,b,d,_=>by cases d;simp[uA]
 |x::r,a,b,d,e=>by rw[uA,h.step e.head,h.walk d.2 e.tail,<-d.1];omega
def xy4(t:∀p∈P,PqIn n p)(m:Int->Int):∀(k:Nat) (F:List Int),F.length=k->For n P F->∃φ,PotS P F m φ:=by
 intro k;induction k with
 |zero=>intro F l _;exact⟨λ_=>0,λi g=>by rw[rV.mp l]at g;cases g⟩
 |succ k A=>
  intro F l h;obtain⟨G,q,rfl⟩:∃G q,F=G++[q]:=(by have d:F≠[]:=(by rintro rfl;simp at l);exact⟨F.dropLast,F.getLast d,(jo d).symm⟩);have o:=h.take;obtain⟨φ,y⟩:=A G (by simpa using l) o;obtain⟨u,r⟩:∃u,u=joinsM (freshM n) (prs P G):=⟨_,rfl⟩;have e:=h.ind;unfold prs at e;rw[nN]at e;have d:¬Sm u (cO P q).a.toNat (cO P q).b.toNat:=(by have:=(Indep.app.mp e).2;rw[show List.map (cO P) [q]=[cO P q]from rfl]at this;rw[r];exact this.1);have f:∀j∈G,Sm u (cO P j).a.toNat (cO P j).b.toNat:=λj w=>by rw[r];exact F3 (Lab.fresh n) (pN t o.rng) _ (fR.mpr ⟨j,w,rfl⟩)
  unfold Sm at d f;refine⟨λv=>φ v+(if at0 u v.toNat=at0 u (cO P q).b.toNat then m q-(φ (cO P q).b-φ (cO P q).a)else 0),λi g=>?_⟩;rcases iZ.mp g with g|g
  .have C:=y i g;have x:=f i g;simp only
   rw[x];omega
  .simp at g;subst g;simp only
   rw[aF trivial,aB d];omega
structure Pot (n:Nat) (P:List Pq) (F:List Int) (ph φ:Int->Int):Prop where
 st:PotS P F ph φ
 z:∀v,v<n->at0 (joinsM (freshM n) (prs P F)) v=v->φ v=0
def xy3(a:∀p∈P,PqIn n p)(b:Int->Int){F:List Int}(h:For n P F):∃φ,Pot n P F b φ:=by
 obtain⟨φ,g⟩:=xy4 a b F.length F rfl h;refine⟨λv=>φ v-φ (at0 (joinsM (freshM n) (prs P F)) v.toNat),λi d=>?_,λv j e=>?_⟩
 .have l:=g i d;have f:=F3 (Lab.fresh n) (pN a h.rng) (cO P i) (fR.mpr ⟨i,d,rfl⟩);unfold Sm at f;rw[f];omega
 .show φ v-φ (at0 (joinsM (freshM n) (prs P F)) (v:Int).toNat)=0;rw[jF,e];omega
open Classical in
def lZ(n:Nat)(P:List Pq)(F:List Int)(a:Int->Int):Int->Int:=if h:∃φ,Pot n P F a φ then Classical.choose h else λ_=>0
def xeq(b:∀p∈P,PqIn n p)(a:Int->Int){F:List Int}(h:For n P F):Pot n P F a (lZ n P F a):=by have:=xy3 b a h;unfold lZ;rw[dif_pos this];exact Classical.choose_spec this
def xcv{a:Int->Int}{M:Nat}{F:List Int}(b:∀i∈F,(a i).natAbs<=M):∀{w:List Sp},AllF F w->(uA a w).natAbs<=w.length*M
 |[],_=>by simp[uA]
 |x::r,h=>by have d:=xcv b h.tail;have f:=b x.p h.head.1;have g:(x.s*a x.p).natAbs=(a x.p).natAbs:=(by rcases h.head.2 with e|e<;>rw[e]<;>simp);rw[uA,dW,lU];omega
def Pot.abs(d:∀p∈P,PqIn n p){ph φ:Int->Int}{F:List Int}(e:For n P F)(h:Pot n P F ph φ){M:Nat}(m:∀i∈F,(ph i).natAbs<=M){v:Nat}(g:v<n):(φ v).natAbs<=n*M:=by have o:=(Lab.fresh n).joins (pN d e.rng);obtain⟨C,D,l⟩:=o.ok v g;obtain⟨w,u,f⟩:=xg5 d e.rng (v:=(at0 (joinsM (freshM n) (prs P F)) v).toNat) (w:=v) (by omega) g (by unfold Sm;exact l);obtain⟨x,b,a,y⟩:=xfp u f;have j:=x06 (e.cut d) b a y;have r:=e.len d;have Z:=h.st.walk b a;have t:=h.z (at0 (joinsM (freshM n) (prs P F)) v).toNat (by omega) (by rw[l];omega);rw[t]at Z;have A:=xcv m a;have:x.length*M<=n*M:=oO M (by omega);omega
structure RSt where
 y:List Sp
 k:List Bool
def NJ(l:List Sp)(i:Int):Sp:=l.getD i.toNat ⟨0,0⟩
def boA(l:List Bool)(i:Int):Bool:=l.getD i.toNat false
def LG(P:List Pq)(st:RSt)(x:Sp):RSt:=if boA st.k (eW P x)&&!(boA st.k (cZ P x))then⟨st.y.set (cZ P x).toNat x,st.k.set (cZ P x).toNat true⟩else st
def Bw(P:List Pq)(F:List Int)(st:RSt)(fr:Int):List Sp->Int->Prop
 |[],v=>boA st.k v=true/\v=fr
 |x::r,v=>boA st.k v=true/\v≠fr/\NJ st.y v=x/\cZ P x=v/\kI F x/\Bw P F st fr r (eW P x)
def Bw.one{F:List Int}{st:RSt}{fr:Int}:∀{r s:List Sp} {v:Int},Bw P F st fr r v->Bw P F st fr s v->r=s
 |[],[],_,_,_=>rfl
 |[],x::s,_,h,k=>absurd h.2 k.2.1
 |x::r,[],_,h,k=>absurd k.2 h.2.1
 |x::r,y::s,v,h,k=>by have e:x=y:=h.2.2.1.symm.trans k.2.2.1;subst e;rw[Bw.one h.2.2.2.2.2 k.2.2.2.2.2]
def Bw.walk{F:List Int}{st:RSt}{fr:Int}:∀{r:List Sp} {v:Int},Bw P F st fr r v->Wk P r.reverse fr v/\AllF F r.reverse
 |[],v,h=>⟨h.2.symm,λx b=>by cases b⟩
 |x::r,v,h=>by obtain⟨d,e⟩:=h.2.2.2.2.2.walk;rw[xk7];refine⟨d.app ⟨rfl,h.2.2.2.1⟩,e.app λy a=>?_⟩;simp at a;subst a;exact h.2.2.2.2.1
def Bw.drop{F:List Int}{st:RSt}{fr:Int}:∀{a b:List Sp} {v:Int},Bw P F st fr (a++b) v->∃w,Bw P F st fr b w
 |[],b,v,h=>⟨v,h⟩
 |x::a,b,v,h=>Bw.drop (a:=a) h.2.2.2.2.2
def xfo:∀{w:List Sp} {x:Sp},NB P w->(∀y,w.getLast?=some y->cZ P x≠eW P y)->NB P (w++[x])
 |[],_,_,_=>trivial
 |[y],x,_,h=>⟨h y rfl,trivial⟩
 |y::z::r,x,h,b=>⟨h.1,xfo (w:=z::r) h.2 λq a=>b q (by simpa using a)⟩
def Bw.nb{F:List Int}{st:RSt}{fr:Int}:∀{r:List Sp} {v:Int},Bw P F st fr r v->NB P r.reverse
 |[],_,_=>trivial
 |[x],_,_=>trivial
 |x::y::r,v,h=>by
  have b:=h.2.2.2.2.2;have f:=b.nb;rw[xk7];refine xfo f λz a e=>?_
  rw[xk7]at a;simp at a;subst a;have d:=b.2.2.2.2.2;rw[<-e,h.2.2.2.1]at d;have:=congrArg List.length (d.one h);simp only[dW]at this;omega
structure RInv7 (n:Nat) (P:List Pq) (F:List Int) (f0:Int) (st:RSt):Prop where
 y:st.y.length=n
 k:st.k.length=n
 fr:boA st.k f0=true
 bw:∀v:Int,0<=v->v<n->boA st.k v=true->∃r,Bw P F st f0 r v
def W9{l:List Bool}{b v:Int}(a:0<=b)(d:b<l.length)(e:0<=v):boA (l.set b.toNat true) v=if v=b then true else boA l v:=by
 unfold boA;rw[fP,fP,HT];by_cases c:v=b
 .rw[aF c,c,aF rfl,aF (by omega)];rfl
 .rw[aB c,aB (by omega)]
def xj5{l:List Sp}{b v:Int}{x:Sp}(a:0<=b)(d:b<l.length)(e:0<=v):NJ (l.set b.toNat x) v=if v=b then x else NJ l v:=by
 unfold NJ;rw[fP,fP,HT];by_cases c:v=b
 .rw[aF c,c,aF rfl,aF (by omega)];rfl
 .rw[aB c,aB (by omega)]
def vB(a:∀p∈P,PqIn n p){F:List Int}(b:∀i∈F,0<=i/\i<P.length){x:Sp}(d:kI F x):(0<=eW P x/\eW P x<n)/\0<=cZ P x/\cZ P x<n:=by obtain⟨e,f,g⟩:=LT a (b x.p d.1);unfold eW cZ;split<;>omega
def Bw.set(g:∀p∈P,PqIn n p){F:List Int}(j:∀i∈F,0<=i/\i<P.length){st:RSt}{fr b:Int}{x:Sp}(m:st.y.length=n)(o:st.k.length=n)(d:0<=b)(t:b<n)(l:boA st.k b=false):∀{r:List Sp} {v:Int},0<=v->Bw P F st fr r v ->
    Bw P F ⟨st.y.set b.toNat x,st.k.set b.toNat true⟩ fr r v
 |[],v,e,h=>by
  refine⟨?_,h.2⟩;simp only
  rw[W9 d (by omega) e];split
  .rfl
  .exact h.1
 |y::r,v,e,h=>by
  have a:v≠b:=(by rintro rfl;have:=h.1;rw[l]at this;cases this);refine⟨?_,h.2.1,?_,h.2.2.2.1,h.2.2.2.2.1,Bw.set g j m o d t l (vB g j h.2.2.2.2.1).1.1 h.2.2.2.2.2⟩
  .simp only
   rw[W9 d (by omega) e,aB a];exact h.1
  .simp only
   rw[xj5 d (by omega) e,aB a];exact h.2.2.1
def RInv7.step(j:∀p∈P,PqIn n p){F:List Int}(l:∀i∈F,0<=i/\i<P.length){fr:Int}(m:0<=fr){st:RSt}(h:RInv7 n P F fr st){x:Sp}(t:kI F x) :
    RInv7 n P F fr (LG P st x)/\(∀v,0<=v->boA st.k v=true->boA (LG P st x).k v=true)/\(boA st.k (eW P x)=true->boA (LG P st x).k (cZ P x)=true):=by
 obtain⟨⟨u,C⟩,b,d⟩:=vB j l t;unfold LG;cases D:boA st.k (eW P x)with
 |false=>simp;exact h
 |true=>
  cases g:boA st.k (cZ P x)with
  |true=>simp;exact⟨h,g⟩
  |false=>
   simp only[cC,iL,cI];have a:∀v,0<=v->boA st.k v=true->boA (st.k.set (cZ P x).toNat true) v=true:=λv w Z=>by
    rw[W9 b (by rw[h.k];exact d) w];split
    .rfl
    .exact Z
   have zK:boA (st.k.set (cZ P x).toNat true) (cZ P x)=true:=(by rw[W9 b (by rw[h.k];exact d) b,aF rfl]);refine⟨⟨by simp[h.y],by simp[h.k],a fr m h.fr,λv f A Z=>?_⟩,a,λ_=>zK⟩;simp only at Z;rw[W9 b (by rw[h.k];exact d) f]at Z;by_cases c:v=cZ P x
   .obtain⟨r,o⟩:=h.bw (eW P x) u C D;refine⟨x::r,?_,?_,?_,c.symm,t,Bw.set j l h.y h.k b d g u o⟩
    .rw[c];exact zK
    .intro e;have:=h.fr;rw[<-e,c,g]at this;cases this
    .simp only
     rw[xj5 b (by rw[h.y];exact d) f,aF c]
   .rw[aB c]at Z;obtain⟨r,o⟩:=h.bw v f A Z;exact⟨r,Bw.set j l h.y h.k b d g f o⟩
def r0(n:Nat)(fr:Int):RSt:=⟨List.replicate n ⟨0,0⟩,(List.replicate n false).set fr.toNat true⟩
open Go.Proofs
def xh8{a:Id->Option Ob}{id:Id}{d:List AV}{v b k:Nat}{f:Bool}(h:a id=some (.row d v f)):Go.Ix.frz a (k+1) (.ptr id v b)=((d.drop b).mapM (Go.Ix.frz a k)).map AV.aH:=by simp only[Go.Ix.frz,h,cI]
def xh9{b:Id->Option Ob}{id:Id}{a d:AV}{v k:Nat}{f:Bool}(h:b id=some (.row [a] v f))(e:Go.Ix.frz b k a=some d):Go.Ix.frz b (k+1) (.ptr id v 0)=some (.aH [d]):=by rw[xh8 h];simp only[bF,eO,gS,e];rfl
def xng:YK=[nilS,nilS]:=by kernel_rfl
def x7k:∀n:Nat,n<=12->lO prog dP YQ (I n)=some (.sc (.int .u64 n))
 |0,_=>by kernel_rfl
 |1,_=>by kernel_rfl
 |2,_=>by kernel_rfl
 |3,_=>by kernel_rfl
 |4,_=>by kernel_rfl
 |5,_=>by kernel_rfl
 |6,_=>by kernel_rfl
 |7,_=>by kernel_rfl
 |8,_=>by kernel_rfl
 |9,_=>by kernel_rfl
 |10,_=>by kernel_rfl
 |11,_=>by kernel_rfl
 |12,_=>by kernel_rfl
 |n+13,h=>by omega
def yev(a:aJ):∀n:Nat,n<=12->∃v:Int,ry a [] [.sc (.int .u64 n)] mem0=some (I v,⟨[],1⟩)
 |0,_=>⟨0,by kernel_rfl⟩
 |1,_=>⟨1,by kernel_rfl⟩
 |2,_=>⟨2,by kernel_rfl⟩
 |3,_=>⟨2,by kernel_rfl⟩
 |4,_=>⟨3,by kernel_rfl⟩
 |5,_=>⟨3,by kernel_rfl⟩
 |6,_=>⟨3,by kernel_rfl⟩
 |7,_=>⟨3,by kernel_rfl⟩
 |8,_=>⟨4,by kernel_rfl⟩
 |9,_=>⟨4,by kernel_rfl⟩
 |10,_=>⟨4,by kernel_rfl⟩
 |11,_=>⟨4,by kernel_rfl⟩
 |12,_=>⟨4,by kernel_rfl⟩
 |n+13,h=>by omega
def xox(d:Nat){n:Nat}(b:n<=12)(m:Mem):∃v:Int,aI (aG (d+2)) FP [.sc (.int .u64 n)] m=some (I v,m):=by
 obtain⟨v,e⟩:=yev (aG d) n b;have a:∀m,aI (aG (d+1)) FO [.sc (.int .u64 n)] m=some (I v,m):=λm=>by refine eY rfl ?_ m;rw[yb4,e];exact RetF.st rfl rfl
 refine⟨v,eY rfl ?_ m⟩;rw[yb5];unfold rz bQ WU;simp[mem0,a];exact RetF.st rfl rfl
def xj3(d:Nat)(Z:FHs){a:AV}{ok:Id->Prop}{L:List Int}{m:Mem}(g:L.length<=12)(h:Gk 1 intE ok m a L) :
    ∃b,aG (d+5) Z C8 [a] m=some (.tup [],b)/\Gk 1 intE ok b a (iJ (λx y=>decide (x<y)) (L.length-1) L)/\m.next<=b.next/\vG ok m b:=by
 rw[x9h];unfold na bQ RQ;obtain⟨v,n⟩:=xox (d+2) g (⟨m.hp,m.next+1⟩:Mem);simp only[h.len jH,aC,x7k _ g,n];rw[x9e];unfold mu zR RJ;obtain⟨i,f⟩:∃i,NN=i+1:=⟨NN-1,by have:=dB;omega⟩;rw[f];simp only[OH];unfold wg;obtain⟨b,o,p,r,t⟩:=ycz d Z (L:=L) (m:=⟨m.hp,m.next+1+1⟩) (by omega) (h.frame λ_ _=>rfl);have e:(L.length:Int)<=12:=(by omega);simp[o];rw[bU];simp[e];exact⟨p,by have:b.next=m.next+1+1+1:=r;omega,λj l=>by rw[t j l];rfl⟩
def fW(l:List Scene)(P:List Pq)(i:Int):Int:=lenP l (cO P i)
def x7u(d:Nat){s p:AV}{l:List Scene}{P:List Pq}(Z:Sl Scene.c s l)(e:Sl Pq.c p P)(a:Right7 l P)(id:Id)(b:id.1=0):PB (aG (d+3)) (.clo P6 [.ptr id 0 0]) id (.row [s,p] 0 false) P.length (λx y=>fW l P x-fW l P y):=by intro t x y m f g h n u;refine⟨m.next+1,by omega,?_⟩;show aG (d+3) t P6 [I x,I y,.ptr id 0 0] m=_;have o:=a.at (i:=x) ⟨f,g⟩;have r:=a.at (i:=y) ⟨h,n⟩;have A:=xgo a.ib o;have C:=xgo a.ib r;rw[x8z];unfold lm hJ QO;have hg':(⟨m.hp,m.next+1⟩:Mem).get id=some (.row [s,p] 0 false):=u;obtain⟨i,j,k⟩:=id;simp at b;subst b;have w:Nat.ble 1 (m.next+1)=true:=(by rw[Nat.ble_eq];omega);unfold fW;simp[w,hg',xbn d Z e a.ib ⟨f,g⟩ o,xbn d Z e a.ib ⟨h,n⟩ r,Z.fO,e.fO,dJ,tR,Nat.blt];rw[bU]
def ord_rng{f:Int->Int}{N:Nat}:InN N (eH f N):=λx a=>((C1 f N).2 x).mp a
def bo(f:Int->Int)(N:Nat):(eH f N).length=N:=by
 have:=xdi (C1 f N).nodup (eo N).nodup λx=>((C1 f N).2 x).trans fresh_mem.symm
 rw[this];simp[freshM]
def xzf{l:List Scene}{P:List Pq}(a:Right7 l P)(f:Int->Int)(k:Nat):Rng l.length P ((eH f P.length).take k):=λi b=>by have:=ord_rng _ (tK b);exact⟨this,a.at this⟩
def yep(d:Nat){s p:AV}{l:List Scene}{P:List Pq}(Z:Sl Scene.c s l)(R:Sl Pq.c p P)(u:Right7 l P)(hl:l.length<=12)(hP:P.length<=19) :
    RetF (λv=>Ints v (jX (fW l P) l.length P)) (aG (d+7) [] P7 [.agg [s,p]] mem0):=by
 rw[x80];unfold ln bQ QL vc;simp[mem0,Z.one,R.one,R.len tW];refine nZ (N:=P.length) (λn k a m Y=>Z2 (aG (d+6)) [] 0 n (.ptr (0,0,1) 0 0) a nilS (I P.length) (I k) m Y)
  (λk a m=>m.get (0,0,1)=some (.row [s,p] 0 false)/\Gk 1 intE (pO 19) m a ((freshM P.length).take k)/\m.next=1) _ ?_ ?_ NN 0 nilS _ _ (by omega) (by rw[dB];omega) ⟨by simp,by simpa using Gk.nil,rfl⟩
 .rintro n k a m Y r ⟨h,W,hn⟩ next;have hk':(k:Int)<(P.length:Int):=(by omega);have hlt:((freshM P.length).take k).length=k:=(by simp[freshM];omega);obtain⟨a2,g,L,i,-,-,e3,e4⟩:=W.app (bytes:=8) (id0:=(0,Y+6,19)) fL (by omega) ⟨rfl,rfl⟩ (by unfold cF;omega) (k:Int);simp only[Z2];unfold QM;simp(disch:=omega) [hk',nQ,bU];rw[show elems m.get 1 (.aN [I (k:Int)] 1 true)=some (intE (k:Int),1)from rfl,L];exact next a2 g _ ⟨by rw[e4 _ (by unfold pO;simp)];exact h,by rw[<-MS r];exact i,by omega⟩
 .rintro n a m Y ⟨h,W,hn⟩;have r:¬((P.length:Int)<(P.length:Int)):=(by omega);rw[dT (by simp[freshM])]at W;have hfl:(freshM P.length).length=P.length:=(by simp[freshM]);obtain⟨m1,c1,c2,O,c4⟩:=yda (d+3) [] (x7u d Z R u (0,0,1) rfl) (ok:=pO 19) (by unfold pO;simp) (by omega) (λx w=>fresh_mem.mp w) W h;rw[show(λx y=>decide (fW l P x-fW l P y<0))=λx y=>decide (fW l P x<fW l P y)from by funext x y;exact decide_eq_decide.mpr (by omega),x4k]at c2;have C:m1.get (0,0,1)=some (.row [s,p] 0 false):=(by rw[c4 _ (by unfold pO;simp)];exact h);obtain⟨ua,M,hc,X,hM,Q⟩:=xbl (d+5) (n:=l.length) (by omega) m1;simp only[Z2];unfold QM vd;simp[c1,C,Z.len mG,hc];have hgM:M.get (0,0,1)=some (.row [s,p] 0 false):=(by rw[Q _ (by show 0<m1.next;omega)];exact C);have D:Gk 1 intE (pO 19) M a (eH (fW l P) P.length):=c2.frame λj e=>Q j (by obtain⟨E,h2⟩:=e;omega)
  have hol:=bo (fW l P) P.length;unfold ve;simp only[D.len jH,aC];generalize hN1:m1.next=t at *
  have hN0:1<=t:=(by omega);refine nZ (N:=(eH (fW l P) P.length).length) (λn k o m Y=>Z3 (aG (d+6)) [] 0 n (.ptr (0,0,1) 0 0) o ua a (I (eH (fW l P) P.length).length) (I k) m Y)
   (λk o m=>(m.get (0,0,1)=some (.row [s,p] 0 false)/\t<m.next)/\Gk 1 intE (pO 19) m a (eH (fW l P) P.length)/\Gk 1 intE (λid=>id.1=t) m ua (kL l.length P ((eH (fW l P) P.length).take k)) /\
    Gk 1 intE (pO 46) m o (jT P (freshM l.length) ((eH (fW l P) P.length).take k))) _ ?_ ?_ NN 0 nilS _ _ (by omega) (by rw[dB];omega) ⟨⟨hgM,by omega⟩,D,by simpa[kL,prs,joinsM]using X,by simpa[jT]using Gk.nil⟩
  .rintro n k o m Y r ⟨⟨h,hmn⟩,hO,X,A⟩ next;have hk':(k:Int)<((eH (fW l P) P.length).length:Int):=(by omega);obtain⟨q,i1,l1,-⟩:=hO.at (k:=(k:Int)) (by omega) hk';rw[jF]at l1;have w:=ord_rng.get r;have hRk:=xzf u (fW l P) k;have hL:=(xb5 hRk).len;have hq:=u.at w;have ip:=R.ixz Pq.len w.1 w.2;have lp:=λm=>iH (m:=m) (enc:=Pq.c) Pq.len (by omega) (show(at0 (eH (fW l P) P.length) k).toNat<P.length by omega)
   rw[<-LR (by omega)]at lp;have hus:=xp3 (n:=l.length) (P:=P) r;have f:jT P (freshM l.length) ((eH (fW l P) P.length).take (k+1))=jT P (freshM l.length) ((eH (fW l P) P.length).take k)++(if at0 (kL l.length P ((eH (fW l P) P.length).take k)) (cO P (at0 (eH (fW l P) P.length) k)).a.toNat=at0 (kL l.length P ((eH (fW l P) P.length).take k)) (cO P (at0 (eH (fW l P) P.length) k)).b.toNat then[]else[at0 (eH (fW l P) P.length) k]):=(by rw[mS r,xqt,fH r];rfl);have htl:(jT P (freshM l.length) ((eH (fW l P) P.length).take k)).length<=20:=(by have E:=(CC (P:=P) ((eH (fW l P) P.length).take k) (freshM l.length)).length_le;simp at E;omega);obtain⟨g,L,i,e3,e4⟩:=xjz (d+5) [] X (λj e=>by have hj':j.1=t:=e;omega) (p:=cO P (at0 (eH (fW l P) P.length) k)) (by rw[hL];exact hq) (by rw[hL];omega);have keep:∀j:Id,j.1=0->g.get j=m.get j:=λj e=>e4 j (by show ¬j.1=t;omega) (by omega)
   simp only[Pq.c]at lp;simp only[Z3];unfold QN vf;have F:Gk 1 intE (pO 19) g a (eH (fW l P) P.length):=hO.frame λj e=>keep j e.1
   have H:Gk 1 intE (pO 46) g o (jT P (freshM l.length) ((eH (fW l P) P.length).take k)):=A.frame λj e=>keep j e.1
   have J:g.get (0,0,1)=some (.row [s,p] 0 false):=(by rw[keep _ rfl];exact h);rw[<-hus]at i;simp only[bV,hk',bB,aS,aC,i1,l1];simp[h,ip,lp,L];by_cases O:at0 (kL l.length P ((eH (fW l P) P.length).take k)) (cO P (at0 (eH (fW l P) P.length) k)).a.toNat=at0 (kL l.length P ((eH (fW l P) P.length).take k)) (cO P (at0 (eH (fW l P) P.length) k)).b.toNat
   .rw[aF O,hW]at f;simp[O];unfold IG;simp(disch:=omega) [bU];exact next o g _ ⟨⟨J,by omega⟩,F,i,by rw[f];exact H⟩
   .rw[aB O]at f;obtain⟨o2,m3,a1,a2,-,-,a3,a4⟩:=H.app (bytes:=8) (id0:=(0,Y+1+14,46)) fL (by omega) ⟨rfl,rfl⟩ (by unfold cF;omega) (at0 (eH (fW l P) P.length) k);simp[O,nQ];rw[show ∀x:Int,elems g.get 1 (.aN [I x] 1 true)=some (intE x,1)from λ_=>rfl,a1];unfold IG;simp(disch:=omega) [bU];refine next o2 m3 _ ⟨⟨by rw[a4 _ (by unfold pO;simp)];exact J,by omega⟩,F.frame λj e=>a4 j (by obtain⟨E,h2⟩:=e;unfold pO;omega),i.frame λj e=>a4 j (by have hj':j.1=t:=e;unfold pO;omega),by rw[f];exact a2⟩
  .rintro n o m Y ⟨⟨h,hmn⟩,hO,X,A⟩;rw[dT (bS _)]at A;have hTL:jT P (freshM l.length) (eH (fW l P) P.length)=zG (fW l P) l.length P:=rfl;rw[hTL]at A;have hlen:=(xgn u.pr (fW l P)).len u.pr;obtain⟨g,L,i,e3,e4⟩:=xj3 (d+1) [] (by omega) A;obtain⟨s1,s2⟩:=x4m (xgm (n:=l.length) (P:=P) (fW l P));have K:iJ (λx y=>decide (x<y)) ((zG (fW l P) l.length P).length-1) (zG (fW l P) l.length P)=jX (fW l P) l.length P:=s1.one (xgk _) λx=>(s2 x).trans light_mem.symm
   rw[K]at i;simp only[Z3];unfold QN vg;simp[L];obtain⟨v,E,h2⟩:=i.sl1 4;exact RetF.mk h2 E
def xod(d:Nat){s p:AV}{l:List Scene}{P:List Pq}(Z:Sl Scene.c s l)(a:Sl Pq.c p P)(b:Right7 l P)(e:l.length<=12)(f:P.length<=19)(m:Mem) :
    ∃v,Ints v (jX (fW l P) l.length P)/\aI (aG (d+7)) P7 [.agg [s,p]] m=some (v,m):=
 rS (by simp[Z.aP,a.aP]) (yep d Z a b e f) m
end Go.Ix
namespace Go.Ix
variable{α:Type}{z:Nat}{enc:α->List AV}
def xc1(a:∀x,(enc x).length=z)(x:α):∀(l:List α) (k:Nat),k<l.length->cH (l.flatMap enc) (k*z) (enc x)=(l.set k x).flatMap enc
 |[],_,h=>by simp at h
 |y::r,0,_=>by simp only[cH,xI,bW,kF,iX,List.set_cons_zero,dK];rw[a,<-a y,ye7 (bS _),mE (bS _),iX]
 |y::r,k+1,h=>by have b:=xc1 a x r k (by simpa using h);simp only[cH,jg,dK]at b ⊢;rw[lU,show k*z+z=(enc y).length+k*z by rw[a];omega,HM,oP,n9,kU,<-b];have e:(enc y).length+(k*z+(enc x).length)-(enc y).length=k*z+(enc x).length:=(by omega);rw[e,mE (by omega),iX]
open Go.Proofs
def bE(b:Bool):List AV:=[B b]
theorem yd2(b:Bool):(bE b).length=1:=rfl
variable{α:Type}{z:Nat}{enc:α->List AV}
def Ow(a:α->List AV)(m:Mem)(id:Id)(l:List α):Prop:=m.get id=some (.row (l.flatMap a) 0 false)
def Ow.fr{m a:Mem}{id:Id}{l:List α}(h:Ow enc m id l)(e:a.get id=m.get id):Ow enc a id l:=by unfold Ow;rw[e];exact h
def xzd{id:Id}{n:Nat}{k:Int}(a:0<=k)(b:k<n):aV z (.sref id 0 0 n z true) (I k)=some (.ptr id 0 (k.toNat*z)):=by simp[aV,dF,a,b]
def Ow.ld(a:∀x,(enc x).length=z){m:Mem}{id:Id}{l:List α}(h:Ow enc m id l){k:Nat}(b:k<l.length){g:Bool}:aA g z (.ptr id 0 (k*z)) m=rd g z (enc l[k]++(l.drop (k+1)).flatMap enc):=by rw[aQ h,wV a,gV b,dK]
def Ow.st(a:∀x,(enc x).length=z){m:Mem}{id:Id}{l:List α}(h:Ow enc m id l){k:Nat}(d:k<l.length){x:α}{v:AV}(b:v.cells=enc x)(e:(enc x).all AV.one=true) :
    (∀{R:Type} (K:Mem->Option R),bA z (.ptr id 0 (k*z)) v m K=K (m.set id (.row ((l.set k x).flatMap enc) 0 false)))/\Ow enc (m.set id (.row ((l.set k x).flatMap enc) 0 false)) id (l.set k x):=by
 refine⟨λK=>?_,by unfold Ow;simp⟩;have f:=fN a l;rw[iB (z:=z) (x:=v) (k:=K) h (by rw[b,a]) (by rw[f];have:=oO z (show k+1<=l.length from d);rw[lU]at this;exact this) (by rw[b];exact e),b,xc1 a x l k d]
def xmz{z:List AV}{c:AV}(a:∀i,i<z.length->z.getD i (.sc undef)=c)(b:0<z.length)(k:Nat):eQ z k=List.replicate k c:=by
 unfold eQ;apply HW
 .simp
 .intro i d e;simp only[Y0,List.getElem_range,List.getElem_replicate];exact a _ (xK _ b)
def xtc(n:Nat)(c:AV)(x:α)(a:enc x=List.replicate z c):(List.replicate n x).flatMap enc=List.replicate (n*z) c:=by
 induction n with
 |zero=>simp
 |succ n b=>rw[xk8,dK,b,a,lU,ja,List.replicate_append_replicate]
def xfy{R:Type}{b:List AV}{c:AV}{a:Nat}(d:a<=64)(e:b.length=z)(f:∀i,i<b.length->b.getD i (.sc undef)=c)(g:0<b.length){x:α}(h:enc x=List.replicate z c){n:Nat}(j:n<=1000000)(id:Id)(m:Mem)(k:AV->Mem->Option R) :
    sF b z a (I n) (I n) id m k=k (.sref id 0 0 n z true) (m.new id (.row ((List.replicate n x).flatMap enc) 0 false)):=by
 have l:a*n<=64*1000000:=X8 d j;simp only[sF,dF];rw[aF ⟨by omega,ON _,by omega,by omega⟩,xmz f g,xtc n c x h];simp
def JN:JS=[B false]:=by kernel_rfl
def x1p{R:Type}{n:Nat}(b:n<=1000000)(id:Id)(m:Mem)(k:AV->Mem->Option R):sF JS 1 1 (I n) (I n) id m k=k (.sref id 0 0 n 1 true) (m.new id (.row ((List.replicate n false).flatMap bE) 0 false)):=
 xfy (enc:=bE) (c:=B false) (by omega) (by rw[JN];rfl) (by rw[JN];intro i a;simp at a;subst a;rfl) (by rw[JN];simp) rfl b id m k
def x1o{R:Type}{n:Nat}(b:n<=1000000)(id:Id)(m:Mem)(k:AV->Mem->Option R):sF gI 1 8 (I n) (I n) id m k=k (.sref id 0 0 n 1 true) (m.new id (.row ((List.replicate n (0:Int)).flatMap intE) 0 false)):=
 xfy (enc:=intE) (c:=I 0) (by omega) (by rw[nQ];rfl) (by rw[nQ];intro i a;simp at a;subst a;rfl) (by rw[nQ];simp) rfl b id m k
def Ow.ldB{m:Mem}{id:Id}{l:List Bool}(h:Ow bE m id l){k:Int}(b:0<=k)(d:k<l.length):aA false 1 (.ptr id 0 k.toNat) m=some (B (l.getD k.toNat false)):=by have a:k.toNat<l.length:=(by omega);have:=h.ld yd2 a (g:=false);rw[oN]at this;rw[this,fP,gE a];rfl
def Ow.ldI{m:Mem}{id:Id}{l:List Int}(h:Ow intE m id l){k:Int}(b:0<=k)(d:k<l.length):aA false 1 (.ptr id 0 k.toNat) m=some (I (at0 l k.toNat)):=by have a:k.toNat<l.length:=(by omega);have:=h.ld fL a (g:=false);rw[oN]at this;rw[this,fH a];rfl
def DI{id:Id}{n:Nat}{k:Int}(a:0<=k)(b:k<n):aV 1 (.sref id 0 0 n 1 true) (I k)=some (.ptr id 0 k.toNat):=by simpa using xzd (z:=1) (id:=id) a b
def Ow.st1{g:α->AV}(a:∀x,enc x=[g x]){m:Mem}{id:Id}{l:List α}(h:Ow enc m id l){k:Int}(e:0<=k)(f:k<l.length){x:α}(b:(g x).cells=[g x])(d:(g x).one=true) :
    (∀{R:Type} (K:Mem->Option R),bA 1 (.ptr id 0 k.toNat) (g x) m K=K (m.set id (.row ((l.set k.toNat x).flatMap enc) 0 false)))/\Ow enc (m.set id (.row ((l.set k.toNat x).flatMap enc) 0 false)) id (l.set k.toNat x):=by
 have:=h.st (z:=1) (λx=>by rw[a];rfl) (k:=k.toNat) (by omega) (x:=x) (v:=g x) (by rw[b,a]) (by rw[a];simp[d]);simpa using this
def GkF(ok:Id->Prop)(m:Mem)(a:AV)(l:List Int):Prop:=(a=nilS/\l=[])\/∃id d b,ok id/\a=.sref id d 0 l.length 1 true/\m.get id=some (.row (l.flatMap intE) d b)
def GkF.frame{ok:Id->Prop}{m m':Mem}{a:AV}{l:List Int}(h:GkF ok m a l)(d:∀id,ok id->m'.get id=m.get id):GkF ok m' a l:=by
 rcases h with h|⟨id,ver,b,h0,h1,h2⟩
 .exact Or.inl h
 .exact Or.inr ⟨id,ver,b,h0,h1,by rw[d _ h0];exact h2⟩
def BestI(f:Int->Int)(S:List Int)(i:Nat)(b:Int):Prop:=(b=-1/\∀j:Nat,j<i->(j:Int)∈S)\/((0<=b/\b<i)/\b∉S/\∀j:Nat,j<i->(j:Int)∉S->(j:Int)=b\/lx f b j)
def BestI.fin{f:Int->Int}{N:Nat}{k:Nat}{b:Int}(h:BestI f ((eH f N).take k) N b)(x:k<N):b=at0 (eH f N) k:=by
 have y:=bo f N;have i:=C1 f N;have a:k<(eH f N).length:=(by omega);have l:=(InN.get (ord_rng (f:=f) (N:=N)) a);have m:=i.nodup;have d:at0 (eH f N) k∉(eH f N).take k:=λt=>by obtain⟨j,u,e⟩:=HO.mp t;rw[OA,fH a]at e;simp at u;exact ye2.mp m j k (by omega) a (by omega) e
 rcases h with ⟨r,n⟩|⟨r,n,w⟩
 .have:=n (at0 (eH f N) k).toNat (by omega);rw[J9 l.1]at this;exact absurd this d
 .have o:=w (at0 (eH f N) k).toNat (by omega) (by rw[J9 l.1];exact d);rw[J9 l.1]at o;rcases o with e|e
  .exact e.symm
  .have p:b∈eH f N:=(i.2 b).mpr r;rw[<-vH k (eH f N),iZ]at p;have g:=p.resolve_left n;rw[gV a,dV]at g;rcases g with e2|e2
   .rw[fH a];exact e2
   .have Z:=i.1;rw[<-vH k (eH f N),gV a]at Z;have:=(vI.mp (X9.mp Z).2.1).1 b e2;rw[fH a]at e;exact(xgc _ _ this e).elim
def DoneI(f:Int->Int)(N k:Nat)(D:List Bool):Prop:=D.length=N/\∀i:Nat,i<N->D.getD i false=decide ((i:Int)∈(eH f N).take k)
def DoneI.next{f:Int->Int}{N k:Nat}{D:List Bool}(h:DoneI f N k D)(e:k<N):DoneI f N (k+1) (D.set (at0 (eH f N) k).toNat true):=by
 have j:=bo f N;have a:k<(eH f N).length:=(by omega);have l:=InN.get (ord_rng (f:=f) (N:=N)) a;refine⟨by simp[h.1],λi d=>?_⟩;rw[mS a,<-fH a,fP,HT];have b:=h.2 i d;rw[fP]at b;by_cases c:(at0 (eH f N) k).toNat=i
 .rw[aF c,aF (by rw[h.1];omega)];have:(i:Int)=at0 (eH f N) k:=(by omega);simp[this]
 .rw[aB c,b];have:¬(i:Int)=at0 (eH f N) k:=(by omega);simp[this]
def xaw:JT=[I 0,I 0]:=by kernel_rfl
def xom(d:Nat){s p:AV}{P:List Pq}(Z:s.one=true/\aP s=true)(a:Sl Pq.c p P){x:Sp}(e:0<=x.p/\x.p<P.length)(m:Mem) :
    aI (aG (d+1)) DW [.agg [s,p],.agg [I x.p,I x.s]] m=some (.tup [I (eW P x),I (cZ P x)],m):=by
 refine eY (by simp[Z.2,a.aP]) ?_ m;have f:=a.ixz Pq.len e.1 e.2;have b:=λm=>iH (m:=m) (enc:=Pq.c) Pq.len (by omega) (show x.p.toNat<P.length by omega)
 rw[<-LR (by omega)]at b;unfold eW cZ;generalize cO P x.p=q at *
 simp only[Pq.c]at b;rw[x85];unfold mb aU QW;by_cases c:x.s<0
 .simp[mem0,Z.1,a.one,f,b,v6,c];exact RetF.tup rfl rfl
 .simp[mem0,Z.1,a.one,f,b,v6,c];exact RetF.tup rfl rfl
def idY:Id:=(0,5,21)
def idS:Id:=(0,10,25)
structure WM (s p:AV) (st:RSt) (m:Mem):Prop where
 b4:m.get (0,0,4)=some (.row [s,p] 0 false)
 oY:Ow Sp.c m idY st.y
 oS:Ow bE m idS st.k
def WM.fr{s p:AV}{st:RSt}{m a:Mem}(h:WM s p st m)(e:∀j:Id,j=(0,0,4)\/j=idY\/j=idS->a.get j=m.get j):WM s p st a:=
 ⟨by rw[e _ (.inl rfl)];exact h.b4,h.oY.fr (e _ (.inr (.inl rfl))),h.oS.fr (e _ (.inr (.inr rfl)))⟩
def OutS(m:Mem)(a:AV)(l:List Sp):Prop:=Sl Sp.c a l\/∃id:Id,id.1=0/\id.2.2=85/\a=.sref id 0 0 l.length 2 true/\Ow Sp.c m id l
def OutS.elems{m:Mem}{a:AV}{l:List Sp}(h:OutS m a l):elems m.get 2 a=some (l.flatMap Sp.c,l.length):=by
 rcases h with h|⟨id,-,-,rfl,h⟩
 .exact h.elems Sp.len m.get
 .have b:=fN Sp.len l;unfold Go.Ix.elems;simp only
  unfold Ow at h;rw[h];simp only
  rw[aF ⟨trivial,trivial,by omega⟩,bF,dT (by omega)]
def OutS.frz{m:Mem}{a:AV}{l:List Sp}(h:OutS m a l)(k:Nat):∃b,Sl Sp.c b l/\Go.Ix.frz m.get (k+2) a=some b:=by
 rcases h with h|⟨id,-,-,rfl,h⟩
 .exact⟨a,h,kA _ k h.bD⟩
 .exact⟨_,Sl.lit l false,ei (k:=k) Sp.len Sp.bD h⟩
def xnl:xa5=[I 0,I 0]:=by kernel_rfl
def x45:kZ prog BS (.agg [I 1,I (-1)]) (I 0)=some (I 1):=by kernel_rfl
def x44:kZ prog BS (.agg [I 1,I (-1)]) (I 1)=some (I (-1)):=by kernel_rfl
def xol(d:Nat){s p f:AV}{l:List Scene}{P:List Pq}{F:List Int}(Z:Sl Scene.c s l)(b:Sl Pq.c p P)(a:Ints f F)(v:Int)(m:Mem) :
    aI (aG (d+1)) DV [.agg [s,p],I v,f] m=some (.clo yU [.aH [f],.aH [s,p],.aH [I v]],m):=by
 refine eY (by simp[Z.aP,b.aP,a.bD]) ?_ m;rw[x84];unfold ma hJ QV;simp[mem0,Z.one,b.one,a.one,a.cells];generalize e:Mem.new _ _ _=m1;have g:m1.get (0,2,5)=some (.row [f] 0 false):=(by rw[<-e];simp);have h:m1.get (0,0,3)=some (.row [s,p] 0 false):=(by rw[<-e];simp);have i:m1.get (0,1,4)=some (.row [I v] 0 false):=(by rw[<-e];simp);have j:Go.Ix.frz m1.get 5 (.ptr (0,2,5) 0 0)=some (.aH [f]):=xh9 g (kA _ 2 a.bD);have n:Go.Ix.frz m1.get 5 (.ptr (0,1,4) 0 0)=some (.aH [I v]):=xh9 i rfl;have o:Go.Ix.frz m1.get 5 (.ptr (0,0,3) 0 0)=some (.aH [s,p]):=(by rw[xh8 h];simp only[bF,eO,gS,kA m1.get 2 Z.bD,kA m1.get 2 b.bD];rfl);refine RetF.mk (a':=.clo yU [.aH [f],.aH [s,p],.aH [I v]]) ?_ rfl;show(([AV.ptr (0,2,5) 0 0,.ptr (0,0,3) 0 0,.ptr (0,1,4) 0 0].mapM (Go.Ix.frz m1.get 5)).map λl=>AV.clo _ l)=_;simp only[eO,gS,j,n,o];rfl
def xq9{F:List Int}{k:Nat}(a:k<F.length):qV (F.take (k+1))=qV (F.take k)++[⟨at0 F k,1⟩]++[⟨at0 F k,-1⟩]:=by unfold qV;rw[mS a,rW,fH a];simp
def yc1(d:Nat){y:FHs}{id:Id}{h:List AV->Mem->Option Mem}{s p f:AV}{l:List Scene}{P:List Pq}{F:List Int}(Z:Sl Scene.c s l)(hp:Sl Pq.c p P)(hf:Ints f F)(hF:F.length<=1000)(hr:∀i∈F,0<=i/\i<P.length)(hl:oF y id=some h)(v:Int){H:Mem}(b:List Sp->Mem->Prop)(t:Mem->Prop)(Q:∀a m g,b a m->g.next=m.next->(∀i:Id,¬i.1=H.next->g.get i=m.get i)->b a g)(hy:∀a x m,kI F x->eW P x=v->b a m->∃e,h [.agg [I x.p,I x.s],I (cZ P x)] m=some e/\(jW e.get id=true/\b (a++[x]) e\/jW e.get id=false/\t e))(hn:∀a x m,kI F x->eW P x≠v->b a m->b (a++[x]) m)(h0:∀m,m.next=H.next+1->(∀i:Id,m.get i=H.get i)->b [] m) :
    ∃g,aG (d+2) y yU [.yld id,.aH [f],.aH [s,p],.aH [I v]] H=some (.tup [],g)/\(b (qV F) g\/t g):=by
 rw[x83];unfold lz zR QS;generalize hu:H.next=u at *
 simp only[B3,dE,aC,hf.len jH];refine nZ (N:=F.length) (σ:=Unit) (λn k _ m Y=>o0 (aG (d+1)) y u n (.yld id) (.aH [s,p]) (.aH [I v]) f (I F.length) (I k) m Y) (λk _ m=>b (qV (F.take k)) m)
  (λr=>∃g,r=some (.tup [],g)/\(b (qV F) g\/t g)) ?_ ?_ NN 0 () _ _ (by omega) (by rw[dB];omega) (by simpa[qV]using h0 ⟨H.hp,u+1⟩ rfl (λ_=>rfl))
 .rintro n k-m Y J O next;have hk':(k:Int)<(F.length:Int):=(by omega);have ix:=hf.ix fL J;have ld:=λm=>oB (m:=m) J
  have A:at0 F k∈F:=(by rw[fH J];exact eU J);have hx:=hr _ A;have hsc:=xq9 J;generalize at0 F k=i at *
  simp only[o0];unfold QT vk;simp only[bV,hk',bB,aS,aC,ix,ld,xnl];rw[show dA [I 0,I 0] [(0,1,I 1),(1,1,I (-1))]=some (.agg [I 1,I (-1)]) by simp[dA,iM]];simp only[aC];have one:∀(sg:Int) (q:Int) (a:List Sp) (m:Mem) (Y R:Nat),(sg=1\/sg=-1)->q<2->0<=q->kZ prog BS (.agg [I 1,I (-1)]) (I q)=some (I sg)->b a m ->
   (∀g X,b (a++[⟨i,sg⟩]) g->∃e,I5 (aG (d+1)) y u (o0 (aG (d+1)) y u n) R (.yld id) (.aH [s,p]) (.aH [I v]) (I i) f (I F.length) (I k) (.agg [I 1,I (-1)]) (I (q+1)) g X=some (.tup [],e)/\(b (qV F) e\/t e)) ->
   ∃e,I5 (aG (d+1)) y u (o0 (aG (d+1)) y u n) (R+1) (.yld id) (.aH [s,p]) (.aH [I v]) (I i) f (I F.length) (I k) (.agg [I 1,I (-1)]) (I q) m Y=some (.tup [],e)/\(b (qV F) e\/t e):=by
   intro sg q a m Y R hsg hq2 hq0 K hI2 go;have L:kI F ⟨i,sg⟩:=⟨A,hsg⟩;have he:=λm=>xom d ⟨Z.one,Z.aP⟩ hp (x:=⟨i,sg⟩) hx m
   simp only[I5];unfold QU;simp only[bV,hq2,bB,aS,aC,K,xaw];rw[show dA [I 0,I 0] [(0,1,I i),(1,1,I sg)]=some (.agg [I i,I sg]) by simp[dA,iM]];simp;generalize E:Mem.set _ _ _=w;have q9:w.get (u,Y+6,9)=some (.row [I i,I sg] 0 false):=(by rw[<-E];simp);have M:b a w:=Q a m w hI2 (by rw[<-E];rfl) λj hj=>by rw[<-E,Mem.bG,aB (by rintro rfl;exact hj rfl),Mem.dI,aB (by rintro rfl;exact hj rfl)]
   simp[he];rw[bU];by_cases c:eW P ⟨i,sg⟩=v
   .obtain⟨e,W,C⟩:=hy a ⟨i,sg⟩ w L c M;have o:fD (aG (d+1)) y 2 (.yld id) [.agg [I i,I sg],I (cZ P ⟨i,sg⟩)] w=some (B (jW e.get id),e):=by
     show(match oF y id with
      |some h=>(h [.agg [I i,I sg],I (cZ P ⟨i,sg⟩)] w).map λ(g:Mem)=>(B (jW g.get id),g)
      |none=>none)=_
     rw[hl];simp only
     rw[W];rfl
    rcases C with ⟨D,C⟩|⟨D,C⟩
    .rw[D]at o;simp[c,q9,o];exact go e _ C
    .rw[D]at o;simp[c,q9,o];exact .inr C
   .simp[c];exact go w _ (hn a ⟨i,sg⟩ w L c M)
  obtain⟨NM,hNM⟩:∃NM,NN=NM+1+1+1:=⟨NN-3,by have:=dB;omega⟩;rw[hNM];refine one 1 0 _ m _ _ (.inl rfl) (by omega) (by omega) x45 O λw fc1 W=>?_
  refine one (-1) 1 _ w _ _ (.inr rfl) (by omega) (by omega) x44 W λe fc2 C=>?_
  simp only[I5];unfold QU vl;simp(disch:=omega) [bU];exact next () e _ (by rw[hsc];exact C)
 .rintro n-m Y O;rw[dT (bS _)]at O;simp only[o0];unfold QT;simp;exact .inl O
def yc2(d:Nat){hh:FHs}{id:Id}{h:List AV->Mem->Option Mem}{s p f:AV}{l:List Scene}{P:List Pq}{F:List Int}(Z:Sl Scene.c s l)(w:Sl Pq.c p P)(y:Ints f F)(A:F.length<=1000)(C:∀i∈F,0<=i/\i<P.length)(D:oF hh id=some h)(v:Int){m0:Mem}(g:List Sp->Mem->Prop)(o:∀e m j,g e m->j.next=m.next->(∀i:Id,¬i.1=m0.next->j.get i=m.get i)->g e j)(E:∀e x m,kI F x->eW P x=v->g e m->∃n,h [.agg [I x.p,I x.s],I (cZ P x)] m=some n/\g (e++[x]) n)(H:∀e x m,kI F x->eW P x≠v->g e m->g (e++[x]) m)(J:∀m,m.next=m0.next+1->(∀i:Id,m.get i=m0.get i)->g [] m)(r:id.2.2=0:=by rfl) :
    ∃j,aG (d+2) hh yU [.yld id,.aH [f],.aH [s,p],.aH [I v]] m0=some (.tup [],j)/\g (qV F) j:=by
 obtain⟨j,t,u⟩:=yc1 d Z w y A C D v g (λ_=>False) o (λe x m a b c=>by
  obtain⟨n,t,u⟩:=E e x m a b c
  exact⟨n,t,.inl ⟨by unfold jW;rw[r];rfl,u⟩⟩) H J
 exact⟨j,t,u.resolve_right λx=>x⟩
end Go.Ix
namespace Go.Ix
variable{P:List Pq}{n:Nat}{F:List Int}
def yd5{l:List Int}{b v:Int}{x:Int}(a:0<=b)(d:b<l.length)(e:0<=v):at0 (l.set b.toNat x) v.toNat=if v=b then x else at0 l v.toNat:=by
 unfold at0;rw[fP,fP,HT];by_cases c:v=b
 .rw[aF c,c,aF rfl,aF (by omega)];rfl
 .rw[aB c,aB (by omega)]
def unk(K:List Bool):Nat:=(K.filter λb=>!b).length
def ZE:∀{K:List Bool} {k:Nat},k<K.length->K.getD k false=false->unk (K.set k true)+1=unk K
 |[],_,h,_=>by simp at h
 |b::r,0,_,a=>by simp at a;subst a;simp[unk]
 |b::r,k+1,h,a=>by have:=ZE (K:=r) (k:=k) (by simpa using h) (by simpa using a);unfold unk at this ⊢;rw[jg];cases b<;>simp<;>omega
def xb4:∀{K L:List Bool},K.length=L.length->(∀k,k<K.length->K.getD k false=true->L.getD k false=true)->unk L<=unk K
 |[],[],_,_=>bS _
 |[],_::_,h,_=>by simp at h
 |_::_,[],h,_=>by simp at h
 |a::r,b::s,h,g=>by
  have e:=xb4 (K:=r) (L:=s) (by simpa using h) λk d=>by have:=g (k+1) (by simpa using d);simpa using this
  have f:=g 0 (by simp);simp only[xlh]at f;unfold unk at e ⊢;cases a with
  |true=>rw[f rfl];exact e
  |false=>
   cases b
   .show(r.filter λb=>!b).length+1 ≥ (s.filter λb=>!b).length+1;omega
   .show(s.filter λb=>!b).length<=(r.filter λb=>!b).length+1;omega
structure DS (n:Nat) (φ:Int->Int) (O:List Int) (K:List Bool):Prop where
 lo:O.length=n
 lk:K.length=n
 kn:∀v:Int,0<=v->v<n->boA K v=true->at0 O v.toNat=φ v
def Un(n:Nat)(O:List Int)(K:List Bool)(a:Int):Prop:=∀v:Int,0<=v->v<n->v≠a->boA K v=false->at0 O v.toNat=0
def Sub(n:Nat)(K L:List Bool):Prop:=∀v:Int,0<=v->v<n->boA K v=true->boA L v=true
def Sub.unk{K L:List Bool}(h:Sub n K L)(b:K.length=n)(d:L.length=n):unk L<=unk K:=xb4 (by omega) λk a e=>by have:=h (k:Int) (by omega) (by omega) (by unfold boA;simpa using e);unfold boA at this;simpa using this
def Clo(P:List Pq)(F:List Int)(K L:List Bool):Prop:=∀x,kI F x->boA K (eW P x)=false->boA L (eW P x)=true->boA L (cZ P x)=true
def Cls(P:List Pq)(F:List Int)(K:List Bool):Prop:=∀x,kI F x->boA K (eW P x)=true->boA K (cZ P x)=true
def Clo.trans(b:∀p∈P,PqIn n p)(d:∀i∈F,0<=i/\i<P.length){K L M:List Bool}(h:Clo P F K L)(e:Clo P F L M)(Z:Sub n L M):Clo P F K M:=λx a f g=>by
 cases c:boA L (eW P x)with
 |true=>exact Z _ (vB b d a).2.1 (vB b d a).2.2 (h x a f c)
 |false=>exact e x a c g
def Cls.grow(b:∀p∈P,PqIn n p)(d:∀i∈F,0<=i/\i<P.length){K L:List Bool}(h:Cls P F K)(e:Clo P F K L)(Z:Sub n K L):Cls P F L:=λx a f=>by
 cases c:boA K (eW P x)with
 |true=>exact Z _ (vB b d a).2.1 (vB b d a).2.2 (h x a c)
 |false=>exact e x a c f
def Cls.walk{K:List Bool}(h:Cls P F K):∀{w:List Sp} {a b:Int},Wk P w a b->AllF F w->boA K a=true->boA K b=true
 |[],_,_,d,_,e=>by cases d;exact e
 |x::r,a,b,d,f,e=>Cls.walk h d.2 f.tail (h x f.head (by rw[d.1];exact e))
def xta(b:∀p∈P,PqIn n p)(d:For n P F){K:List Bool}(h:Cls P F K){i:Nat}(e:i<n)(f:∀j:Nat,j<i->boA K j=true)(g:boA K i=false):at0 (joinsM (freshM n) (prs P F)) i=i:=by have m:=(Lab.fresh n).joins (pN b d.rng);obtain⟨t,u,o⟩:=m.ok i e;apply Classical.byContradiction;intro l;obtain⟨w,r,a⟩:=xg5 b d.rng (v:=(at0 (joinsM (freshM n) (prs P F)) i).toNat) (w:=i) (by omega) e (by unfold Sm;exact o);have:=h.walk r a (f _ (by omega));rw[g]at this;cases this
def mK(n:Nat)(φ:Int->Int):List Int:=(List.range n).map λ(v:Nat)=>φ v
def rG(n:Nat)(φ:Int->Int):(mK n φ).length=n:=by simp[mK]
def LV{φ:Int->Int}{v:Int}(a:0<=v)(b:v<n):at0 (mK n φ) v.toNat=φ v:=by rw[fH (by rw[rG];omega)];simp[mK];rw[Int.max_eq_left a]
def DS.all{φ:Int->Int}{O:List Int}{K:List Bool}(h:DS n φ O K)(b:∀j:Nat,j<n->boA K j=true):O=mK n φ:=by
 apply HW
 .rw[h.lo,rG]
 .intro i a e;have d:i<n:=(by rw[<-h.lo];exact a);have:=h.kn i (by omega) (by omega) (b i d);rw[jF,fH a]at this;rw[this];simp[mK]
open Go.Proofs
def Clo.refl{P:List Pq}{F:List Int}{K:List Bool}:Clo P F K K:=λx _ b a=>by rw[b]at a;cases a
def idA:Id:=(0,7,14)
def idK:Id:=(0,12,19)
structure SM (s p f v:AV) (n:Nat) (O:List Int) (K:List Bool) (m:Mem):Prop where
 b2:m.get (0,0,2)=some (.row [s,p] 0 false)
 b3:m.get (0,1,3)=some (.row [f] 0 false)
 b5:m.get (0,13,5)=some (.row [.sref idA 0 0 n 1 true] 0 false)
 b6:m.get (0,14,6)=some (.row [.sref idK 0 0 n 1 true] 0 false)
 b7:m.get (0,19,7)=some (.row [v] 0 false)
 b8:m.get (0,21,8)=some (.row [.clo wB [.ptr (0,14,6) 0 0,.ptr (0,0,2) 0 0,.ptr (0,19,7) 0 0,.ptr (0,13,5) 0 0,.ptr (0,1,3) 0 0,.ptr (0,21,8) 0 0]] 0 false)
 oA:Ow intE m idA O
 oK:Ow bE m idK K
 nx:1<=m.next
def SM.fr{s p f v:AV}{n:Nat}{O:List Int}{K:List Bool}{m b:Mem}(h:SM s p f v n O K m)(d:1<=b.next)(a:∀j:Id,j.1=0->b.get j=m.get j):SM s p f v n O K b:=
 ⟨by rw[a _ rfl];exact h.b2,by rw[a _ rfl];exact h.b3,by rw[a _ rfl];exact h.b5,by rw[a _ rfl];exact h.b6,by rw[a _ rfl];exact h.b7,by rw[a _ rfl];exact h.b8,h.oA.fr (a _ rfl),h.oK.fr (a _ rfl),d⟩
def H6:List AV:=[.ptr (0,14,6) 0 0,.ptr (0,0,2) 0 0,.ptr (0,19,7) 0 0,.ptr (0,13,5) 0 0,.ptr (0,1,3) 0 0,.ptr (0,21,8) 0 0]
def OR(m a:Mem):Prop:=∀j:Id,1<=j.1->j.1<m.next->a.get j=m.get j
def ycu(d:Nat){s p f v:AV}{l:List Scene}{P:List Pq}{F ph:List Int}(Z:Sl Scene.c s l)(hp:Sl Pq.c p P)(hf:Ints f ph)(hv:Ints v F)(hl:l.length<=60)(hP:∀p∈P,PqIn l.length p)(hF:For l.length P F)(hph:ph.length=P.length){φ:Int->Int}(hpot:Pot l.length P F (λi=>at0 ph i.toNat) φ){M:Nat}(hM:∀i∈F,(at0 ph i.toNat).natAbs<=M)(hMb:M<=10000000000):∀(k:Nat) (hh:FHs) (a:Int) (m:Mem) (O:List Int) (K:List Bool),SM s p f v l.length O K m->DS l.length φ O K->(0<=a/\a<l.length)->boA K a=false->at0 O a.toNat=φ a->Un l.length O K a->unk K<=k ->
    ∃W n b,aG (d+3+k) hh wB (I a::H6) m=some (.tup [],W)/\SM s p f v l.length n b W/\DS l.length φ n b/\Un l.length n b a/\Sub l.length K b/\Clo P F K b/\boA b a=true/\m.next<=W.next/\OR m W:=by
 have hFl:=hF.len hP;intro k;induction k with
 |zero=>intro hh a m O K hS hD R hka _ _ hu;have Y:=ZE (K:=K) (k:=a.toNat) (by rw[hD.lk];omega) hka;omega
 |succ k ih=>
  intro hh a m O K hS hD R hka hoa hun hu;suffices main:∀Q:O2->Prop,(∀W n b,SM s p f v l.length n b W->DS l.length φ n b->Un l.length n b a->Sub l.length K b->Clo P F K b->boA b a=true->m.next<=W.next->OR m W->Q (some (.tup [],W)))->Q (aG (d+3+(k+1)) hh wB (I a::H6) m)from
   main (λr=>∃W n b,r=some (.tup [],W)/\SM s p f v l.length n b W/\DS l.length φ n b/\Un l.length n b a/\Sub l.length K b/\Clo P F K b/\boA b a=true/\m.next<=W.next/\OR m W) λW n b Y E h3 h4 h5 h6 h7 h8=>⟨W,n,b,rfl,Y,E,h3,h4,h5,h6,h7,h8⟩
  intro Q hQ;rw[show d+3+(k+1)=(d+3+k)+1 by omega,x8w];unfold H6 lh xiw QH;generalize hU:m.next=u;have hu1:1<=u:=(by rw[<-hU];exact hS.nx);simp only[iE,ge,dY,nP,vZ,iL,bC];generalize hm1:Mem.new _ _ _=m1;have g7:m1.get (u,0,7)=some (.row [I a] 0 false):=(by rw[<-hm1];simp);have L:SM s p f v l.length O K m1:=hS.fr (by rw[<-hm1];show 1<=u+1;omega) λj hj=>by rw[<-hm1,Mem.dI,aB (by rintro rfl;simp only at hj;omega)];rfl
  have hm1n:m1.next=u+1:=(by rw[<-hm1];rfl);have hm1f:OR m m1:=λj Y E=>by rw[<-hm1,Mem.dI,aB (by rintro rfl;rw[hU]at E;exact Nat.lt_irrefl _ E)];rfl
  have ixK:aV 1 (.sref idK 0 0 l.length 1 true) (I a)=some (.ptr idK 0 a.toNat):=DI R.1 R.2;obtain⟨st1,st2⟩:=L.oK.st1 (g:=B) (λ_=>rfl) (k:=a) R.1 (by rw[hD.lk];exact R.2) (x:=true) rfl rfl;simp only[jJ,L.b6,g7,V0,I0,bC,bF,dE,aC,ixK,st1];generalize hm2:Mem.set _ _ _=m2 at st2;obtain⟨K1,hK1⟩:∃K1,K1=K.set a.toNat true:=⟨_,rfl⟩;rw[<-hK1]at st2;have o:∀j:Id,j≠idK->m2.get j=m1.get j:=λj hj=>by rw[<-hm2,Mem.bG,aB hj]
  have hS2:SM s p f v l.length O K1 m2:=⟨by rw[o _ (by simp[idK])];exact L.b2,by rw[o _ (by simp[idK])];exact L.b3,by rw[o _ (by simp[idK])];exact L.b5,by rw[o _ (by simp[idK])];exact L.b6,by rw[o _ (by simp[idK])];exact L.b7,by rw[o _ (by simp[idK])];exact L.b8,
   L.oA.fr (o _ (by simp[idK,idA])),st2,by rw[<-hm2];exact L.nx⟩
  have hm2n:m2.next=u+1:=(by rw[<-hm2];exact hm1n);have g7':m2.get (u,0,7)=some (.row [I a] 0 false):=(by rw[o _ (by unfold idK;simp only[ne_eq,bK,not_and];omega)];exact g7);have hkb:∀w:Int,0<=w->boA K1 w=if w=a then true else boA K w:=λw t=>by rw[hK1,W9 R.1 (by rw[hD.lk];exact R.2) t]
  have hu2:=ZE (K:=K) (k:=a.toNat) (by rw[hD.lk];omega) hka;rw[<-hK1]at hu2
  have hD1:DS l.length φ O K1:=⟨hD.lo,by rw[hK1];simp[hD.lk],λw J X t=>by
   rw[hkb w J]at t
   by_cases c:w=a
   .rw[c];exact hoa
   .rw[aB c]at t;exact hD.kn w J X t⟩
  have hUn1:Un l.length O K1 a:=λw J X hne t=>by rw[hkb w J,aB hne]at t;exact hun w J X hne t
  have hsub1:Sub l.length K K1:=λw J X t=>by
   rw[hkb w J];split
   .rfl
   .exact t
  have hfrom:=xol (d+2+k) Z hp hv a m2;rw[show d+2+k+1=d+3+k by omega]at hfrom;simp[g7',hS2.b2,hS2.b7,hfrom];unfold uw;simp only[oV];generalize hH:(λ(args:List AV) (m:Mem)=>bif Nat.beq args.length 2&&true then QI (aG (d+3+k)) hh m.next (.ptr (0,14,6) 0 0) (.ptr (0,13,5) 0 0) (.ptr (0,1,3) 0 0) (.ptr (0,21,8) 0 0) (.ptr (u,0,7) 0 0) (args.getD 0 U) (args.getD 1 U) ⟨m.hp,m.next+1⟩ 0 else none)=H;obtain⟨m3,hc,hI⟩:=yc2 (d:=d+1+k) (hh:=((u,9,0),H)::hh) (id:=(u,9,0)) (h:=H) Z hp hv (by omega) hF.rng (by simp[oF]) a (m0:=m2)
   (λpre m=>∃n b,SM s p f v l.length n b m/\DS l.length φ n b/\Un l.length n b a/\Sub l.length K1 b/\Clo P F K1 b/\(∀x∈pre,kI F x/\(eW P x=a->boA b (cZ P x)=true))/\u+1<m.next/\(∀j:Id,1<=j.1->j.1<u+1->m.get j=m2.get j))
   (λpre m W ⟨n,b,Y,E,h3,h4,h5,h6,h7,h8⟩ hn hg=>⟨n,b,Y.fr (by omega) (λj hj=>hg j (by omega)),E,h3,h4,h5,h6,by omega,λj j1 j2=>by rw[hg j (by omega)];exact h8 j j1 j2⟩)
   (λpre x m hx hfx ⟨n,b,Y,E,h3,h4,h5,h6,h7,h8⟩=>by
    suffices step:∀Q2:Option Mem->Prop,(∀mm O2 K2,SM s p f v l.length O2 K2 mm->DS l.length φ O2 K2->Un l.length O2 K2 a->Sub l.length K1 K2->Clo P F K1 K2->(∀y∈pre++[x],kI F y/\(eW P y=a->boA K2 (cZ P y)=true))->u+1<mm.next->(∀j:Id,1<=j.1->j.1<u+1->mm.get j=m2.get j)->Q2 (some mm))->Q2 (H [.agg [I x.p,I x.s],I (cZ P x)] m)from
     step (λr=>∃mm,r=some mm/\∃O2 K2,SM s p f v l.length O2 K2 mm/\DS l.length φ O2 K2/\Un l.length O2 K2 a/\Sub l.length K1 K2/\Clo P F K1 K2/\(∀y∈pre++[x],kI F y/\(eW P y=a->boA K2 (cZ P y)=true))/\u+1<mm.next/\(∀j:Id,1<=j.1->j.1<u+1->mm.get j=m2.get j)) λmm O2 K2 a1 a2 a3 a4 a5 a6 a7 a8=>⟨mm,rfl,O2,K2,a1,a2,a3,a4,a5,a6,a7,a8⟩
    intro Q2 hQ2
    obtain⟨-,t0,t1⟩:=vB hP hF.rng hx
    have hpx:=hF.rng x.p hx.1
    rw[<-hH]
    simp only[dW,jA,bW,Nat.reduceAdd,I0,xV,bC,xlh,List.getD_cons_succ]
    unfold QI ux
    generalize hU3:m.next=u3 at *
    simp only[xaw]
    simp
    generalize hm4:Mem.set _ _ _=m4
    have hm4g:∀j:Id,¬j.1=u3->m4.get j=m.get j:=λj hj=>by
     rw[<-hm4,Mem.bG,aB (by rintro rfl;exact hj rfl),Mem.dI,aB (by rintro rfl;exact hj rfl)];rfl
    have q8:m4.get (u3,0,8)=some (.row [I x.p,I x.s] 0 false):=by rw[<-hm4];simp
    have hm4n:m4.next=u3+1:=by rw[<-hm4];rfl
    have D:SM s p f v l.length n b m4:=Y.fr (by omega) λj hj=>hm4g j (by omega)
    have q7:m4.get (u,0,7)=some (.row [I a] 0 false):=by rw[hm4g _ (by simp only;omega),h8 _ (by simp only;omega) (by simp only;omega)];exact g7'
    have ixT:aV 1 (.sref idK 0 0 l.length 1 true) (I (cZ P x))=some (.ptr idK 0 (cZ P x).toNat):=DI t0 t1
    have ldT:=D.oK.ldB (k:=cZ P x) t0 (by rw[E.lk];exact t1)
    have ldT':aA false 1 (.ptr idK 0 (cZ P x).toNat) m4=some (B (boA b (cZ P x))):=ldT
    have hb:∀i,({hp:=m.hp,next:=u3+1}:Mem).get i=m.get i:=λ_=>rfl
    have q7m:m.get (u,0,7)=some (.row [I a] 0 false):=by rw[h8 _ (by simp only;omega) (by simp only;omega)];exact g7'
    have ixA:aV 1 (.sref idA 0 0 l.length 1 true) (I a)=some (.ptr idA 0 a.toNat):=DI R.1 R.2
    have ixA2:aV 1 (.sref idA 0 0 l.length 1 true) (I (cZ P x))=some (.ptr idA 0 (cZ P x).toNat):=DI t0 t1
    have ldA:=D.oA.ldI (k:=a) R.1 (by rw[E.lo];exact R.2)
    have hKa:boA b a=true:=h4 a R.1 R.2 (by rw[hkb a R.1,aF rfl])
    have hOa:at0 n a.toNat=φ a:=E.kn a R.1 R.2 hKa
    rw[hOa]at ldA
    have MJ:=hf.ixI fL (k:=x.p) hpx.1 (by rw[hph];exact hpx.2)
    have ldP:=oB (m:=m4) (l:=ph) (k:=x.p.toNat) (by omega)
    cases hkt:boA b (cZ P x)with
    |true=>
     rw[hkt]at ldT'
     simp[hb,Y.b6,ixT,ldT']
     exact hQ2 m4 n b D E h3 h4 h5 (λy N=>by
      rcases iZ.mp N with N|N
      .exact h6 y N
      .simp at N;subst N;exact⟨hx,λ_=>hkt⟩) (by omega) (λj j1 j2=>by rw[hm4g j (by omega)];exact h8 j j1 j2)
    |false=>
     rw[hkt]at ldT'
     have hstep:=hpot.st.step hx
     rw[hfx]at hstep
     have A:=Pot.abs hP hF hpot hM (v:=a.toNat) (by omega)
     have bt:=Pot.abs hP hF hpot hM (v:=(cZ P x).toNat) (by omega)
     rw[J9 R.1]at A
     rw[J9 t0]at bt
     have hnM:l.length*M<=60*10000000000:=X8 hl hMb
     obtain⟨st1,st2⟩:=D.oA.st1 (g:=I) (λ_=>rfl) (k:=cZ P x) t0 (by rw[E.lo];exact t1) (x:=φ (cZ P x)) rfl rfl
     simp[-rA,hb,Y.b6,Y.b5,Y.b3,q7m,ixT,ldT',ixA,ixA2,ldA,MJ,ldP]
     have hw1:cJ (φ (cZ P x)-φ a)=φ (cZ P x)-φ a:=bU
     rw[hstep,hw1,bU,show φ a+(φ (cZ P x)-φ a)=φ (cZ P x) by omega]
     simp only[st1]
     generalize hm5:Mem.set m4 _ _=m5 at st2 ⊢
     have C:∀j:Id,j≠idA->m5.get j=m4.get j:=λj hj=>by rw[<-hm5,Mem.bG,aB hj]
     have hm5n:m5.next=u3+1:=by rw[<-hm5];exact hm4n
     have hS5:SM s p f v l.length (n.set (cZ P x).toNat (φ (cZ P x))) b m5:=⟨by rw[C _ (by simp[idA])];exact D.b2,by rw[C _ (by simp[idA])];exact D.b3,by rw[C _ (by simp[idA])];exact D.b5,by rw[C _ (by simp[idA])];exact D.b6,by rw[C _ (by simp[idA])];exact D.b7,by rw[C _ (by simp[idA])];exact D.b8,st2,D.oK.fr (C _ (by simp[idK,idA])),by omega⟩
     have hog:∀w:Int,0<=w->at0 (n.set (cZ P x).toNat (φ (cZ P x))) w.toNat=if w=cZ P x then φ (cZ P x)else at0 n w.toNat:=λw t=>yd5 t0 (by rw[E.lo];exact t1) t
     have hD5:DS l.length φ (n.set (cZ P x).toNat (φ (cZ P x))) b:=⟨by simp[E.lo],E.lk,λw J X t=>by
      rw[hog w J];split
      .rename_i e;rw[e]
      .exact E.kn w J X t⟩
     have hU5:Un l.length (n.set (cZ P x).toNat (φ (cZ P x))) b (cZ P x):=λw J X hne t=>by
      rw[hog w J,aB hne]
      refine h3 w J X ?_ t
      rintro rfl
      rw[hKa]at t;cases t
     have hsu:=h4.unk (by rw[hK1];simp[hD.lk]) E.lk
     obtain⟨m6,O6,K6,e1,e2,e3,e4,e5,e6,e7,e8,e9⟩:=ih hh (cZ P x) m5 _ b hS5 hD5 ⟨t0,t1⟩ hkt (by rw[hog _ t0,aF rfl]) hU5 (by omega)
     have hinv:fD (aG (d+3+k)) hh 2 (.clo wB H6) [I (cZ P x)] m5=some (.tup [],m6):=e1
     unfold H6 at hinv
     simp[hS5.b8,hinv]
     refine hQ2 m6 O6 K6 e2 e3 (λw J X hne t=>?_) (λw J X t=>e5 w J X (h4 w J X t)) (h5.trans hP hF.rng e6 e5) (λy N=>?_) (by omega) (λj j1 j2=>?_)
     .by_cases c:w=cZ P x
      .rw[c,e7]at t;cases t
      .exact e4 w J X c t
     .rcases iZ.mp N with N|N
      .obtain⟨y1,y2⟩:=h6 y N
       exact⟨y1,λhfy=>e5 _ (vB hP hF.rng y1).2.1 (vB hP hF.rng y1).2.2 (y2 hfy)⟩
      .simp at N;subst N;exact⟨hx,λ_=>e7⟩
     .rw[e9 j j1 (by omega),C j (by unfold idA;rintro rfl;simp at j1),hm4g j (by omega)]
      exact h8 j j1 j2)
   (λpre x m hx hfx ⟨n,b,Y,E,h3,h4,h5,h6,h7,h8⟩=>⟨n,b,Y,E,h3,h4,h5,λy N=>by
    rcases iZ.mp N with N|N
    .exact h6 y N
    .simp at N;subst N;exact⟨hx,λhfy=>absurd hfy hfx⟩,h7,h8⟩)
   (λm hn hg=>⟨O,K1,hS2.fr (by omega) (λj _=>hg j),hD1,hUn1,λ_ _ _ h=>h,Clo.refl,(λx hx=>by cases hx),by omega,λj _ _=>hg j⟩)
  obtain⟨n,b,Y,E,h3,h4,h5,h6,h7,h8⟩:=hI;rw[show d+1+k+2=d+3+k by omega]at hc;simp only[hc,aC];refine hQ m3 n b Y E h3 (λw J X t=>h4 w J X (hsub1 w J X t)) (λx hx x0 x1=>?_) (h4 a R.1 R.2 (by rw[hkb a R.1,aF rfl])) (by omega) (λj j1 j2=>?_)
  .by_cases c:eW P x=a
   .exact(h6 x (mem_stepsOf.mpr hx)).2 c
   .exact h5 x hx (by rw[hkb _ (vB hP hF.rng hx).1.1,aB c];exact x0) x1
  .rw[h8 j j1 (by omega),o j (by unfold idK;rintro rfl;simp at j1),hm1f j j1 j2]
def kQ(a:List Int)(i:Int):Int:=at0 a i.toNat
def xnh:∃c,YN=[c]:=by have:YN.length=1:=(by kernel_rfl);exact List.length_eq_one_iff.mp this
def xnc:YL=[nilS]:=by kernel_rfl
def xnd:xay=[nilS]:=by kernel_rfl
def yek(d:Nat){s p f:AV}{l:List Scene}{P:List Pq}{A:List Int}(Z:Sl Scene.c s l)(hp:Sl Pq.c p P)(hf:Ints f A)(hR:Right7 l P)(hl:l.length<=12)(hld:l.length<=d+8)(hPl:P.length<=19)(hph:A.length=P.length){M:Nat}(hM:∀k,k<A.length->(at0 A k).natAbs<=M)(hMb:M<=10000000000) :
    RetF (λv=>Ints v (mK l.length (lZ l.length P (jX (fW l P) l.length P) (kQ A)))) (aG (d+12) [] C7 [.agg [s,p],f] mem0):=by
 have R:=hR.pr;obtain⟨F,H⟩:∃F,F=jX (fW l P) l.length P:=⟨_,rfl⟩;have W:For l.length P F:=(by rw[H];exact xgj R _);have t:=xeq R (kQ A) W;rw[<-H];generalize lZ l.length P F (kQ A)=φ at *
 rw[x8x];unfold li aU QF;obtain⟨zc,hzc⟩:=xnh;simp[mem0,Z.one,hp.one,hf.one,hf.cells,Z.len mG,x1o (n:=l.length) (by omega),x1p (n:=l.length) (by omega),xnc,xnd,tR,tS,aZ,jP];generalize a:Mem.set _ (0,14,6) _=m1;have i2:m1.get (0,0,2)=some (.row [s,p] 0 false):=(by rw[<-a];simp);have i3:m1.get (0,1,3)=some (.row [f] 0 false):=(by rw[<-a];simp);have i5:m1.get (0,13,5)=some (.row [.sref idA 0 0 l.length 1 true] 0 false):=(by rw[<-a];simp[idA]);have i6:m1.get (0,14,6)=some (.row [.sref idK 0 0 l.length 1 true] 0 false):=(by rw[<-a];simp[idK]);have iA:Ow intE m1 idA (List.replicate l.length 0):=(by unfold Ow;rw[<-a];simp[idA]);have iK:Ow bE m1 idK (List.replicate l.length false):=(by unfold Ow;rw[<-a];simp[idK]);have in1:m1.next=1:=(by rw[<-a];rfl);obtain⟨v,hv,D⟩:=xod (d+4) Z hp hR hl hPl m1;rw[<-H]at hv;have hcl:∀(g:FuncId) (c:List AV),(AV.clo g c).cells=[AV.clo g c]:=λ_ _=>rfl
 have hco:∀(g:FuncId) (c:List AV),(AV.clo g c).one=true:=λ_ _=>rfl
 simp[D,hv.cells,hv.one,hzc,hcl,hco];generalize o:Mem.set _ (0,21,8) _=m2;have b:∀j:Id,j≠(0,19,7)->j≠(0,21,8)->m2.get j=m1.get j:=λj C L=>by rw[<-o,Mem.bG,aB L,Mem.dI,aB L,Mem.bG,aB C,Mem.dI,aB C]
 have e:SM s p f v l.length (List.replicate l.length 0) (List.replicate l.length false) m2:=⟨by rw[b _ (by simp) (by simp)];exact i2,by rw[b _ (by simp) (by simp)];exact i3,by rw[b _ (by simp) (by simp)];exact i5,by rw[b _ (by simp) (by simp)];exact i6,by rw[<-o];simp,by rw[<-o];simp,
  iA.fr (b _ (by simp[idA]) (by simp[idA])),iK.fr (b _ (by simp[idK]) (by simp[idK])),by rw[<-o];show 1<=m1.next;omega⟩
 have u:∀v:Int,boA (List.replicate l.length false) v=false:=λv=>by unfold boA;rw[fP,List.getElem?_replicate];split<;>rfl
 have E:∀v:Nat,at0 (List.replicate l.length 0) v=0:=λv=>by unfold at0;rw[fP,List.getElem?_replicate];split<;>rfl
 unfold uu;simp[e.b5];rw[show aM prog fE (.sref idA 0 0 l.length 1 true)=some (I l.length)from rfl];simp only[aC];refine nZ (N:=l.length) (σ:=Unit) (λn k _ m Y=>Z0 (aG (d+11)) [] 0 n (.ptr (0,13,5) 0 0) (.ptr (0,14,6) 0 0) (.ptr (0,21,8) 0 0) (I l.length) (I k) m Y)
  (λk _ m=>∃O K,SM s p f v l.length O K m/\DS l.length φ O K/\Un l.length O K (-1)/\Cls P F K/\∀j:Nat,j<k->boA K j=true) _ ?_ ?_ NN 0 () m2 _ (by omega) (by rw[dB];omega)
  ⟨_,_,e,⟨by simp,by simp,λv _ _ h=>by rw[u]at h;cases h⟩,λv _ _ _ _=>E _,(show Cls P F _ from λx _ h=>by rw[u]at h;cases h),λj h=>by omega⟩
 .rintro n k-m Y hk ⟨O,K,e,J,hU,hC,Q⟩ next;have hk':(k:Int)<(l.length:Int):=(by omega);have ixK:aV 1 (.sref idK 0 0 l.length 1 true) (I (k:Int))=some (.ptr idK 0 (k:Int).toNat):=DI (by omega) hk';have ldK:=e.oK.ldB (k:=(k:Int)) (by omega) (by rw[J.lk];exact hk');have ldK':aA false 1 (.ptr idK 0 (k:Int).toNat) m=some (B (boA K k)):=ldK;simp only[Z0];unfold QG uv;simp only[bV,hk',bB,aS,aC,jJ,e.b6,V0,I0,bC,bF,dE,ixK];rw[<-jJ,ldK'];cases r:boA K k with
  |true=>
   unfold IF;simp(disch:=omega) [bU];refine next () m _ ⟨O,K,e,J,hU,hC,λj hj=>?_⟩;by_cases c:j=k
   .rw[c];exact r
   .exact Q j (by omega)
  |false=>
   have hz:=t.z k hk (xta R W hC hk Q r)
   obtain⟨m3,O3,K3,e1,e2,e3,e4,e5,e6,e7,e8,e9⟩:=ycu (d+8-l.length) Z hp hf hv hR.ll R W hph t (M:=M) (λi hi=>hM _ (by have:=W.rng i hi;omega)) hMb l.length [] (k:Int) m O K e J ⟨by omega,hk'⟩ r (by rw[hU _ (by omega) hk' (by omega) r,hz]) (λw w0 w1 hne D=>hU w w0 w1 (by omega) D) (by
    have C:unk K<=K.length:=NZ _ _
    rw[J.lk]at C
    omega)
   rw[show d+8-l.length+3+l.length=d+11 by omega]at e1;have y:fD (aG (d+11)) [] 2 (.clo wB H6) [I (k:Int)] m=some (.tup [],m3):=e1;unfold H6 at y;simp only[eG,cC,aC,aS,e.b8,V0,I0,bC,bF,dE,y];unfold IF;simp(disch:=omega) [bU];refine next () m3 _ ⟨O3,K3,e2,e3,λw w0 w1 hne D=>?_,hC.grow R W.rng e6 e5,λj hj=>?_⟩
   .by_cases c:w=(k:Int)
    .rw[c,e7]at D;cases D
    .exact e4 w w0 w1 c D
   .by_cases c:j=k
    .rw[c];exact e7
    .exact e5 _ (by omega) (by omega) (Q j (by omega))
 .rintro n-m Y ⟨O,K,e,J,hU,hC,Q⟩;have:=J.all Q;subst this;simp only[Z0];unfold QG uy;simp[e.b5];have X:=e.oA;unfold Ow at X;have C:=ei (k:=4) fL wP (x:=true) (l:=mK l.length φ) X;have L:Ints (.aN ((mK l.length φ).flatMap intE) (mK l.length φ).length false) (mK l.length φ):=Sl.lit _ false;rw[rG]at C L;exact RetF.mk C L
def xbf(d:Nat){s p f:AV}{l:List Scene}{P:List Pq}{a:List Int}(Z:Sl Scene.c s l)(i:Sl Pq.c p P)(j:Ints f a)(n:Right7 l P)(o:l.length<=12)(b:l.length<=d+8)(e:P.length<=19)(g:a.length=P.length){M:Nat}(r:∀k,k<a.length->(at0 a k).natAbs<=M)(h:M<=10000000000)(m:Mem) :
    ∃v,Ints v (mK l.length (lZ l.length P (jX (fW l P) l.length P) (kQ a)))/\aI (aG (d+12)) C7 [.agg [s,p],f] m=some (v,m):=
 rS (by simp[Z.aP,i.aP,j.bD]) (yek d Z i j n o b e g r h) m
def oX(l:List Scene)(P:List Pq)(a:List Int):Int->Int:=lZ l.length P (jX (fW l P) l.length P) (kQ a)
def kE(l:List Scene)(P:List Pq)(d:List Int):List Int:=(List.range P.length).map λ(k:Nat)=>at0 d k-oX l P d (cO P k).b+oX l P d (cO P k).a
def GF(l:List Scene)(P:List Pq)(a:List Int):(kE l P a).length=P.length:=by simp[kE]
def x16{l:List Scene}{P:List Pq}{d:List Int}{k:Nat}(h:k<P.length):at0 (kE l P d) k=at0 d k-oX l P d (cO P k).b+oX l P d (cO P k).a:=by rw[fH (by rw[GF];exact h)];simp[kE]
def x15{l:List Scene}{P:List Pq}{ph:List Int}{k:Nat}(h:k<P.length):(kE l P ph).take (k+1)=(kE l P ph).take k++[at0 ph k-oX l P ph (cO P k).b+oX l P ph (cO P k).a]:=by rw[mS (by rw[GF];exact h),<-fH,x16 h]
def DE{l:List Scene}{P:List Pq}{a:List Int}(b:Right7 l P)(e:a.length=P.length){M:Nat}(f:∀k,k<a.length->(at0 a k).natAbs<=M){v:Int}(g:0<=v)(j:v<l.length):(oX l P a v).natAbs<=l.length*M:=by have d:=xgj (P:=P) (n:=l.length) b.pr (fW l P);have:=Pot.abs b.pr d (xeq b.pr (kQ a) d) (M:=M) (λi h=>f _ (by have:=d.rng i h;omega)) (v:=v.toNat) (by omega);rw[J9 g]at this;exact this
def xep{P:List Pq}{k:Nat}(h:k<P.length):cO P (k:Int)=P[k]:=LR (by simpa using h)
def yen(d:Nat){s p f:AV}{l:List Scene}{P:List Pq}{e:List Int}(Z:Sl Scene.c s l)(r:Sl Pq.c p P)(L:Ints f e)(t:Right7 l P)(O:l.length<=12)(y:l.length<=d+8)(C:P.length<=19)(g:e.length=P.length){M:Nat}(u:∀k,k<e.length->(at0 e k).natAbs<=M)(h:M<=10000000000) :
    RetF (λv=>Ints v (kE l P e)) (aG (d+13) [] P5 [.agg [s,p],f] mem0):=by
 rw[x8y];unfold lj aU QJ;have D:=xbf d Z r L t O y C g u h ((⟨[],1⟩:Mem).new (0,0,2) (.row [s,p] 0 false));obtain⟨v,X,D⟩:=D;have hnM:l.length*M<=12*10000000000:=X8 O h;simp[mem0,Z.one,r.one,D];unfold uz;simp[r.len tW];refine nZ (N:=P.length) (λn k a m Y=>Z1 (aG (d+12)) [] 0 n f v a p (I P.length) (I k) m Y)
  (λk a m=>Gr 1 intE 0 39 m a ((kE l P e).take k)) _ ?_ ?_ NN 0 nilS _ _ (by omega) (by rw[dB];omega) (by simpa using Gr.nil)
 .rintro n k a m Y i w next;have hk':(k:Int)<(P.length:Int):=(by omega);have ip:=r.ix Pq.len i;have Q:=λm=>iH (m:=m) (enc:=Pq.c) Pq.len (by omega) i
  have E:=L.ix fL (show k<e.length by omega);have F:=λm=>oB (m:=m) (show k<e.length by omega)
  have j:=x15 (l:=l) (P:=P) (ph:=e) i;obtain⟨K,q1,q2⟩:=t.pr P[k] (eU i);rw[xep i]at j;generalize P[k]=q at *
  have ia:=X.ixI fL (k:=q.a) K (by rw[rG];omega);have ib:=X.ixI fL (k:=q.b) (by omega) (by rw[rG];omega);have R:=λm=>oB (m:=m) (l:=mK l.length (oX l P e)) (k:=q.a.toNat) (by rw[rG];omega)
  have W:=λm=>oB (m:=m) (l:=mK l.length (oX l P e)) (k:=q.b.toNat) (by rw[rG];omega)
  rw[LV K (by omega)]at R;rw[LV (by omega) q2]at W;have A:=DE t g u (v:=q.a) K (by omega);have bb:=DE t g u (v:=q.b) (by omega) q2;have bp:=u k (by omega);unfold oX at *
  simp only[Pq.c]at Q;simp only[Z1];unfold QK;simp[hk',ip,Q,v6];generalize o:Mem.set _ _ _=m1;have g8:m1.get (0,Y+4,8)=some (.row [I q.a,I q.b] 0 false):=(by rw[<-o];simp);have H:Gr 1 intE 0 39 m1 a ((kE l P e).take k):=w.frame λs=>by rw[<-o];simp
  obtain⟨a2,m2,e1,e2,e3,-⟩:=H.app (s0:=Y+25) (bytes:=8) fL (by omega) (by unfold cF;simp[GF];omega) (at0 e k-lZ l.length P (jX (fW l P) l.length P) (kQ e) q.b+lZ l.length P (jX (fW l P) l.length P) (kQ e) q.a);simp[E,F,ia,ib,R,W,nQ];have J:cJ (at0 e k-lZ l.length P (jX (fW l P) l.length P) (kQ e) q.b)=at0 e k-lZ l.length P (jX (fW l P) l.length P) (kQ e) q.b:=bU;rw[J,bU,bU];rw[show ∀x:Int,elems m1.get 1 (.aN [I x] 1 true)=some (intE x,1)from λ_=>rfl,e1];exact next a2 m2 _ (by rw[j];exact e2)
 .rintro n a m Y w;rw[dT (by rw[GF];exact bS _)]at w;simp only[Z1];unfold QK vb;simp;obtain⟨a',h1,h2⟩:=w.frzk (k:=4) fL wP;exact RetF.mk h2 h1
def xob(d:Nat){s p f:AV}{l:List Scene}{P:List Pq}{a:List Int}(Z:Sl Scene.c s l)(i:Sl Pq.c p P)(j:Ints f a)(n:Right7 l P)(o:l.length<=12)(b:l.length<=d+8)(e:P.length<=19)(g:a.length=P.length){M:Nat}(r:∀k,k<a.length->(at0 a k).natAbs<=M)(h:M<=10000000000)(m:Mem) :
    ∃v,Ints v (kE l P a)/\aI (aG (d+13)) P5 [.agg [s,p],f] m=some (v,m):=
 rS (by simp[Z.aP,i.aP,j.bD]) (yen d Z i j n o b e g r h) m
def StOK7(N:Nat)(w:List Sp):Prop:=∀x∈w,(0<=x.p/\x.p<N)/\(x.s=1\/x.s=-1)
def StOK7.abs{a:List Int}{M:Nat}(b:∀k,k<a.length->(at0 a k).natAbs<=M):∀{w:List Sp},StOK7 a.length w->(uA (kQ a) w).natAbs<=w.length*M
 |[],_=>by simp[uA]
 |x::r,h=>by
  have g:=StOK7.abs b (w:=r) λy d=>h y (dU _ d)
  obtain⟨l,f⟩:=h x (eS ..);have i:=b x.p.toNat (by omega);have j:(x.s*kQ a x.p).natAbs=(at0 a x.p.toNat).natAbs:=(by unfold kQ;rcases f with e|e<;>rw[e]<;>simp);rw[uA,dW,lU];omega
def HH(N:Nat)(a:Int):List Int:=(freshM N).filter λi=>!decide (i=a)
def yee(N:Nat):HH N (-1)=freshM N:=by unfold HH;rw[HV];intro x a;have:=fresh_mem.mp a;simp;omega
def xp5{n:Nat}{P:List Pq}:kL n P (HH P.length (-1))=joinsM (freshM n) P:=by unfold kL;rw[yee,xyv]
def DH(x:Int):Bool:=!(wi x (-100000000) 100000000)
def BV(x:Int):Bool:=!(wi x 0 1000)
def tY(l:List Scene)(P:List Pq)(a b:List Int):Int:=
 bif !decide ((uP l P).2=0)then(uP l P).2 else bif !decide (a.length=P.length)||!decide (b.length=P.length)then 10 else bif a.any DH then 2 else bif b.any BV then 2 else 0
structure TaskOK (l:List Scene) (P:List Pq) (ph wt:List Int):Prop where
 r:Right7 l P
 lp:ph.length=P.length
 lw:wt.length=P.length
 hp:∀k,k<ph.length->-100000000<=at0 ph k/\at0 ph k<=100000000
 hw:∀k,k<wt.length->0<=at0 wt k/\at0 wt k<=1000
def xko{q:Int->Bool}{a b:Int}(e:∀x,q x=!(wi x a b)){l:List Int}(h:l.any q=false):∀k,k<l.length->a<=at0 l k/\at0 l k<=b:=λk d=>by rw[HX]at h;have:=h l[k] (eU d);rw[e]at this;rw[fH d];exact y6 (by simpa using this)
def xcs{l:List Scene}{P:List Pq}{b d:List Int}(h:tY l P b d=0):TaskOK l P b d:=by
 unfold tY at h;by_cases a:(uP l P).2=0
 .by_cases e:b.length=P.length
  .by_cases f:d.length=P.length
   .cases g:b.any DH with
    |true=>rw[g]at h;simp[a,e,f]at h
    |false=>
     cases i:d.any BV with
     |true=>rw[g,i]at h;simp[a,e,f]at h
     |false=>exact⟨x0x a,e,f,xko (λ_=>rfl) g,xko (λ_=>rfl) i⟩
   .simp[a,f]at h
  .simp[a,e]at h
 .simp[a]at h
def xqq(d:Nat):X6 (aG (d+3)) (.clo Q4 []) DH:=by intro Z x m;refine⟨m.next+1,?_⟩;show aG (d+3) Z Q4 [I x] m=_;rw[x9a];unfold mj bQ RE DH;simp[xbg]
def xqp(d:Nat):X6 (aG (d+2)) (.clo Q3 []) BV:=by intro Z x m;refine⟨m.next+1,?_⟩;show aG (d+2) Z Q3 [I x] m=_;rw[x89];unfold mi bQ RD BV;simp[L2]
def xpw(d:Nat){s p f g:AV}{l:List Scene}{P:List Pq}{a b:List Int}(Z:Sl Scene.c s l)(e:Sl Pq.c p P)(h:Ints f a)(i:Ints g b)(r:a.length<1000000)(t:b.length<1000000)(m:Mem) :
    aI (aG (d+8)) DY [.agg [s,p,f,g]] m=some (I (tY l P a b),m):=by
 refine eY (by simp[Z.aP,e.aP,h.aP,i.aP]) ?_ m;rw[x9b];unfold ml bQ RF;have u:=λm=>xbx (d+5) h r (xqq (d+2)) rfl m
 have w:=λm=>xbx (d+5) i t (xqp (d+3)) rfl m
 simp[mem0,Z.one,e.one,h.one,i.one,xn8 (d+1) Z e];unfold tY;by_cases o:(uP l P).2=0
 .simp[o,e.len tW,h.len jH];by_cases n:a.length=P.length
  .simp[n,i.len jH];by_cases j:b.length=P.length
   .simp[j,u];cases x:a.any DH with
    |true=>simp;exact RetF.st rfl rfl
    |false=>
     simp[w];cases y:b.any BV with
     |true=>simp;exact RetF.st rfl rfl
     |false=>simp;exact RetF.st rfl rfl
   .have e2':¬(b.length:Int)=(P.length:Int):=(by omega);simp[j,e2'];exact RetF.st rfl rfl
  .have e1':¬(a.length:Int)=(P.length:Int):=(by omega);simp[n,e1'];exact RetF.st rfl rfl
 .simp[o];exact RetF.st rfl rfl
def CI(m:Mem)(u:Nat)(a:AV)(l:List Int):Prop:=(l=[]/\a=.aN [] 0 true)\/(l≠[]/\a=.sref (u,3,5) 0 0 l.length 1 true/\Ow intE m (u,3,5) l)
def CI.one{m:Mem}{u:Nat}{a:AV}{l:List Int}(h:CI m u a l):a.cells=[a]/\a.one=true/\aP a=aP a:=by rcases h with ⟨-,rfl⟩|⟨-,rfl,-⟩<;>exact⟨rfl,rfl,rfl⟩
def CI.fr{m b:Mem}{u:Nat}{a:AV}{l:List Int}(h:CI m u a l)(e:b.get (u,3,5)=m.get (u,3,5)):CI b u a l:=by
 rcases h with h|⟨h0,h1,h2⟩
 .exact .inl h
 .exact .inr ⟨h0,h1,h2.fr e⟩
def CI.frz{m:Mem}{u:Nat}{a:AV}{l:List Int}(h:CI m u a l)(k:Nat):∃b,Ints b l/\Go.Ix.frz m.get (k+2) a=some b:=by
 rcases h with ⟨rfl,rfl⟩|⟨-,rfl,h⟩
 .exact⟨.aN [] 0 true,Sl.lit [] true,rfl⟩
 .exact⟨_,Sl.lit l false,ei (k:=k) fL wP h⟩
def xia{d:Id->Option Ob}{a b c e f g h i:AV}{k:Nat}(j:Go.Ix.frz d (k+1) a=some f)(l:Go.Ix.frz d (k+1) b=some g)(m:Go.Ix.frz d (k+1) c=some h)(n:Go.Ix.frz d (k+1) e=some i):Go.Ix.frz d (k+2) (.agg [a,b,c,e])=some (.agg [f,g,h,i]):=by show([a,b,c,e].mapM (Go.Ix.frz d (k+1))).map AV.agg=_;simp only[eO,gS,j,l,m,n];rfl
structure Stp where
 fr:Int
 to:Int
 ed:Int
 sg:Int
 gain:Int
 room:Int
def s00:Stp:=⟨0,0,0,0,0,0⟩
def stpAt(S:List Stp)(i:Nat):Stp:=S.getD i s00
def xq8{S:List Stp}{i:Nat}(h:i<S.length):stpAt S i=S[i]:=by unfold stpAt;rw[fP,gE h];rfl
structure SOK (J:Int) (n:Nat) (S:List Stp):Prop where
 ok:∀i,i<S.length->(0<=(stpAt S i).fr/\(stpAt S i).fr<n)/\(0<=(stpAt S i).to/\(stpAt S i).to<n)/\(stpAt S i).fr≠(stpAt S i).to/\(-J<=(stpAt S i).gain/\(stpAt S i).gain<=J)
structure BF where
 far:List Int
 by':List Int
 last:Int
def sT(len r i j:Nat):Nat:=if j<i then r*len+j+1 else r*len+j+1-len
structure BFI (J:Int) (n:Nat) (S:List Stp) (r i:Nat) (b:BF) (ta:Nat->Nat):Prop where
 fl:b.far.length=n
 bl:b.by'.length=n
 le:∀v,ta v<=r*S.length+i
 inj:∀u v,ta u=ta v->0<ta u->u=v
 bnd:∀v,0<=at0 b.far v/\at0 b.far v<=J*(r*S.length+i:Nat)
 bb:∀v,0<=at0 b.by' v/\(at0 b.by' v).toNat<=S.length
 arc:∀j,j<S.length->0<sT S.length r i j->at0 b.far (stpAt S j).fr.toNat+(stpAt S j).gain<=at0 b.far (stpAt S j).to.toNat\/sT S.length r i j<ta (stpAt S j).fr.toNat
 pre:∀v,v<n->0<ta v->(at0 b.by' v).toNat<S.length/\(stpAt S (at0 b.by' v).toNat).to=v /\
  at0 b.far v<=at0 b.far (stpAt S (at0 b.by' v).toNat).fr.toNat+(stpAt S (at0 b.by' v).toNat).gain /\
  (ta v<ta (stpAt S (at0 b.by' v).toNat).fr.toNat->at0 b.far v<at0 b.far (stpAt S (at0 b.by' v).toNat).fr.toNat+(stpAt S (at0 b.by' v).toNat).gain) /\
  (S.length<ta v->ta v<ta (stpAt S (at0 b.by' v).toNat).fr.toNat+S.length)
 la:b.last=-1\/∃v,v<n/\b.last=(v:Nat)/\r*S.length<ta v
def B6(S:List Stp)(a:List Int)(v:Nat):Nat:=(stpAt S (at0 a v).toNat).fr.toNat
def z8(S:List Stp)(a:List Int)(v:Nat):Stp:=stpAt S (at0 a v).toNat
def x2v{P:Nat->Prop}:∀d,P d->∃d,P d/\∀e,e<d->¬P e:=by
 intro d;induction d using Nat.strongRecOn with
 |_ d i=>
  intro h;by_cases c:∃e,e<d/\P e
  .obtain⟨e,f,g⟩:=c;exact i e f g
  .exact⟨d,h,λe a b=>c ⟨e,a,b⟩⟩
def BFI.step{J:Int}{n:Nat}{S:List Stp}(e:SOK J n S){r i:Nat}{b:BF}{a:Nat->Nat}(h:BFI J n S r i b a){v:Nat}(f:v<n)(g:0<a v) :
    z8 S b.by' v∈S/\(z8 S b.by' v).to=v/\(z8 S b.by' v).fr=(B6 S b.by' v:Nat)/\B6 S b.by' v≠v/\at0 b.far v<=at0 b.far (B6 S b.by' v)+(z8 S b.by' v).gain /\
     (a v<a (B6 S b.by' v)->at0 b.far v<at0 b.far (B6 S b.by' v)+(z8 S b.by' v).gain):=by
 obtain⟨d,l,m,o,p⟩:=h.pre v f g;have j:=e.ok _ d;refine⟨?_,l,?_,?_,m,o⟩
 .unfold z8;rw[xq8 d];exact eU d
 .unfold z8 B6;omega
 .unfold B6;omega
inductive Reach (nb:Nat->List Int) (r:Nat):Nat->Prop
 |refl:Reach nb r r
 |step {a b:Nat}:Reach nb r a->(b:Int)∈nb a->Reach nb r b
def muN(P:Nat->Int)(v:Nat):Nat:=Classical.choose (x2v (P:=λw=>P w=P v) v rfl)
def Rt(P:Nat->Int)(a:List Int)(v:Nat):Prop:=at0 a v=(muN P v:Nat)
instance (P:Nat->Int)(ls:List Int)(v:Nat):Decidable (Rt P ls v):=Int.instDecidableEq ..
def yed{N:Nat}{but:Int}{k:Nat}(a:k<N):((freshM N).take (k+1)).filter (λi=>!decide (i=but))=((freshM N).take k).filter (λi=>!decide (i=but))++(if(k:Int)=but then[]else[(k:Int)]):=by rw[<-MS a,xQ];congr 1;by_cases c:(k:Int)=but<;>simp[c]
def xp4(n:Nat)(P:List Pq)(F:List Int)(i:Int):kL n P (F++[i])=jM (kL n P F) (cO P i):=by unfold kL prs;rw[nN,xg4];rfl
def yem(d:Nat){s p:AV}{l:List Scene}{P:List Pq}(Z:Sl Scene.c s l)(w:Sl Pq.c p P)(t:Right7 l P)(e:Int) :
    RetF (λa=>Ints a (kL l.length P (HH P.length e))) (aG (d+2) [] P9 [.agg [s,p],I e] mem0):=by
 have K:=t.ll;have L:=t.pl;rw[x82];unfold ly aU QQ;generalize g:(⟨[],1⟩:Mem).new (0,0,2) (.row [s,p] 0 false)=m1;have C:m1.get (0,0,2)=some (.row [s,p] 0 false):=(by rw[<-g];simp);have O:m1.next=1:=(by rw[<-g];rfl);obtain⟨a,M,X,F,hM,A⟩:=xbl d (n:=l.length) (by omega) m1;have Q:M.get (0,0,2)=some (.row [s,p] 0 false):=(by rw[A _ (by show 0<m1.next;omega)];exact C);simp[mem0,Z.one,w.one,g,C,Z.len mG,X];unfold vh;simp[Q,w.len tW];rw[O]at F;refine nZ (N:=P.length) (σ:=Unit) (λn k _ m Y=>Z4 (aG (d+1)) [] 0 n (I e) a p (I P.length) (I k) m Y)
  (λk _ m=>1<m.next/\Gk 1 intE (λid=>id.1=1) m a (kL l.length P (((freshM P.length).take k).filter λi=>!decide (i=e)))) _ ?_ ?_ NN 0 () M _ (by omega) (by rw[dB];omega) ⟨by omega,by simpa[kL,prs,joinsM]using F⟩
 .rintro n k-m Y o ⟨J,u⟩ next;have hk':(k:Int)<(P.length:Int):=(by omega);have R:=w.ix Pq.len o;have D:=λm=>iH (m:=m) (enc:=Pq.c) Pq.len (by omega) o
  have f:=yed (but:=e) o;have W:=t.pr P[k] (eU o);have y:=xep o
  have E:(kL l.length P (((freshM P.length).take k).filter λi=>!decide (i=e))).length=l.length:=(xb5 (n:=l.length) (λi H=>by
   have:=fresh_mem.mp (tK (jE.mp H).1)
   exact⟨this,t.at this⟩)).len
  generalize P[k]=q at *
  simp only[Pq.c]at D;simp only[Z4];unfold QR vi;simp[hk',R,D,v6];generalize h:Mem.set _ _ _=m2;have g7:m2.get (0,Y+1+3,7)=some (.row [I q.a,I q.b] 0 false):=(by rw[<-h];simp);have r:Gk 1 intE (λid=>id.1=1) m2 a (kL l.length P (((freshM P.length).take k).filter λi=>!decide (i=e))):=u.frame λj x=>by have hj':j.1=1:=x;rw[<-h,Mem.bG,aB (by rintro rfl;simp at hj'),Mem.dI,aB (by rintro rfl;simp at hj')]
  have n2:m2.next=m.next:=(by rw[<-h];rfl);by_cases c:(k:Int)=e
  .rw[aF c,hW]at f;obtain rfl:e=(k:Int):=c.symm;unfold IH;simp(disch:=omega) [bU];exact next () m2 _ ⟨by omega,by rw[f];exact r⟩
  .rw[aB c]at f;obtain⟨m3,e1,e2,e3,e4⟩:=xjz d [] r (λj x=>by have hj':j.1=1:=x;omega) (p:=q) (by rw[E];exact W) (by rw[E];omega);simp[c,e1];unfold IH;simp(disch:=omega) [bU];exact next () m3 _ ⟨by omega,by rw[f,xp4,y];exact e2⟩
 .rintro n-m Y ⟨J,u⟩;rw[dT (by simp[freshM])]at u;simp only[Z4];unfold QR vj;simp;obtain⟨a',h1,h2⟩:=u.sl1 4;exact RetF.mk h2 h1
def xn4(d:Nat){s p:AV}{l:List Scene}{P:List Pq}(Z:Sl Scene.c s l)(e:Sl Pq.c p P)(f:Right7 l P)(b:Int)(m:Mem) :
    ∃a,Ints a (kL l.length P (HH P.length b))/\aI (aG (d+2)) P9 [.agg [s,p],I b] m=some (a,m):=
 rS (by simp[Z.aP,e.aP]) (yem d Z e f b) m
def MI(l:List Scene)(P:List Pq):List Int:=joinsM (freshM l.length) P
def vY(l:List Scene)(P:List Pq)(a:List Int):List Int:=(freshM P.length).filter λi=>!decide (at0 (kE l P a) i.toNat=0)
def uB(l:List Scene)(P:List Pq)(a:List Int)(D i:Int):Int:=if at0 (MI l P) i.toNat=at0 (MI l P) D.toNat then oX l P a i-oX l P a D else 1000000000000
def qW(l:List Scene)(P:List Pq)(a:List Int)(D:Int):List Int:=(freshM l.length).map (uB l P a D)
def xrj{l:List Scene}{P:List Pq}{ph:List Int}{D:Int}{k:Nat}(a:k<l.length):(qW l P ph D).take (k+1)=(qW l P ph D).take k++[uB l P ph D k]:=by rw[mS (by simpa[qW,freshM]using a)];simp[qW,freshM]
def KY{l:List Scene}{P:List Pq}{a:List Int}{D:Int}:(qW l P a D).length=l.length:=by simp[qW,freshM]
def xzj{l:List Scene}{P:List Pq}{ph:List Int}{k:Nat}(a:k<P.length):((freshM P.length).take (k+1)).filter (λi=>!decide (at0 (kE l P ph) i.toNat=0))=((freshM P.length).take k).filter (λi=>!decide (at0 (kE l P ph) i.toNat=0))++(if at0 (kE l P ph) k=0 then[]else[(k:Int)]):=by rw[<-MS a,xQ];congr 1;by_cases c:at0 (kE l P ph) k=0<;>simp[c]
def x56{N k:Nat}(q:Int->Bool):(((freshM N).take k).filter q).length<=N:=by have a:=NZ q ((freshM N).take k);have b:((freshM N).take k).length<=N:=(by simp[freshM];omega);omega
def mX(l:List Scene)(P:List Pq)(a b:List Int)(D:Int):Int:=bif !decide (tY l P a b=0)then tY l P a b else bif !(wi D 0 ((l.length:Int)-1))then 6 else bif decide (0<(vY l P a).length)then 26 else 0
def A0(l:List Scene)(P:List Pq)(a b:List Int)(D:Int):List Int:=bif decide (mX l P a b D=0)then qW l P a D else[]
def yG(l:List Scene)(P:List Pq)(a b:List Int)(D:Int):List Int:=bif decide (tY l P a b=0)&&wi D 0 ((l.length:Int)-1)then vY l P a else[]
def LW{a:List Int}(h:∀k,k<a.length->-100000000<=at0 a k/\at0 a k<=100000000):∀k,k<a.length->(at0 a k).natAbs<=100000000:=λk b=>by have:=h k b;omega
def yet(d:Nat){s p f g:AV}{l:List Scene}{P:List Pq}{h t:List Int}(Z:Sl Scene.c s l)(C:Sl Pq.c p P)(L:Ints f h)(hg:Ints g t)(h1:h.length<1000000)(h2:t.length<1000000)(hfw:Right7 l P->l.length<=12/\l.length<=d+8/\P.length<=19)(D:Int) :
    RetF (λv=>∃a b,v=.tup [a,b,I (mX l P h t D)]/\Ints a (A0 l P h t D)/\Ints b (yG l P h t D)) (aG (d+14) [] DX [.agg [s,p,f,g],I D] mem0):=by
 have fin:∀(e:Int) (m:Mem),e≠0->mX l P h t D=e->yG l P h t D=[]->RetF (λv=>∃a b,v=.tup [a,b,I (mX l P h t D)]/\Ints a (A0 l P h t D)/\Ints b (yG l P h t D)) (some (.tup [nilS,nilS,I e],m)):=λe m h0 he hB=>
  RetF.tup rfl ⟨nilS,nilS,by rw[he],Or.inl ⟨rfl,by unfold A0;rw[he];simp[h0]⟩,Or.inl ⟨rfl,hB⟩⟩
 rw[x88];unfold mh aU RC;simp[mem0,Z.one,C.one,L.one,hg.one,xpw (d+5) Z C L hg h1 h2];by_cases y:tY l P h t=0;rotate_left
 .simp[y];exact fin _ _ y (by unfold mX;simp[y]) (by unfold yG;simp[y])
 have A:=xcs y;have H:=A.r;obtain⟨hl,hld,W⟩:=hfw H;simp[y,xng];rw[show dA [nilS,nilS] [(0,2,AV.agg [s,p])]=some (.agg [s,p]) by simp[dA,iM]];simp[Z.one,C.one,Z.len mG];rw[bU];generalize J:Mem.set _ _ _=m1;have E:m1.get (0,0,2)=some (.row [s,p,f,g] 0 false):=(by rw[<-J];simp);have F:m1.get (0,12,8)=some (.row [s,p] 0 false):=(by rw[<-J];simp);have M:m1.next=1:=(by rw[<-J];rfl);simp[L2];cases K:wi D 0 ((l.length:Int)-1)with
 |false=>simp;exact fin 6 _ (by omega) (by unfold mX;simp[y,K]) (by unfold yG;simp[K])
 |true=>
  obtain⟨d0,d1⟩:=y6 K;simp;unfold vo;obtain⟨ms,X,hmc⟩:=xob d Z C L H hl hld W A.lp (LW A.hp) (by omega) m1;have hml:=GF l P h;simp[F,E,hmc,X.len jH];refine nZ (N:=P.length) (λn k b m Y=>Z5 (aG (d+13)) [] 0 n (I D) (.ptr (0,0,2) 0 0) (.ptr (0,12,8) 0 0) b ms (I (kE l P h).length) (I k) m Y)
   (λk b m=>(m.get (0,0,2)=some (.row [s,p,f,g] 0 false)/\m.get (0,12,8)=some (.row [s,p] 0 false)/\m.next=1)/\Gr 1 intE 0 48 m b (((freshM P.length).take k).filter λi=>!decide (at0 (kE l P h) i.toNat=0))) _ ?_ ?_ NN 0 nilS m1 _ (by omega) (by rw[dB];omega) ⟨⟨E,F,M⟩,by simpa using Gr.nil⟩
  .rintro n k b m Y hk ⟨⟨E,F,M⟩,w⟩ next;have hk':(k:Int)<((kE l P h).length:Int):=(by omega);have ix:=X.ix fL (show k<(kE l P h).length by omega);have ld:=λm=>oB (m:=m) (show k<(kE l P h).length by omega)
   have j:=xzj (l:=l) (ph:=h) hk;have hfl:=x56 (N:=P.length) (k:=k) λi=>!decide (at0 (kE l P h) i.toNat=0)
   simp only[Z5];unfold RA vp;by_cases c:at0 (kE l P h) k=0
   .rw[aF c,hW]at j;simp only[bV,hk',bB,aS,aC,ix,ld,fS,c,cE,aT];unfold II;simp(disch:=omega) [bU];exact next b m _ ⟨⟨E,F,M⟩,by rw[j];exact w⟩
   .rw[aB c]at j;obtain⟨b2,m2,e1,e2,e3,e4⟩:=w.app (s0:=Y+1+10) (bytes:=8) fL (by omega) (by unfold cF;omega) (k:Int);simp only[bV,hk',bB,aS,aC,ix,ld];simp[c,nQ];rw[show ∀x:Int,elems m.get 1 (.aN [I x] 1 true)=some (intE x,1)from λ_=>rfl,e1];unfold II;simp(disch:=omega) [bU];exact next b2 m2 _ ⟨⟨by rw[e4 _ (by simp)];exact E,by rw[e4 _ (by simp)];exact F,by omega⟩,by rw[j];exact e2⟩
  .rintro n b m Y ⟨⟨E,F,M⟩,w⟩;rw[dT (by simp[freshM])]at w;have hG':Gr 1 intE 0 48 m b (vY l P h):=w;simp only[Z5];unfold RA vq;simp only[hml,bV,Int.lt_irrefl,bO,aT,aC,hG'.len jH,fT];by_cases c2:0<(vY l P h).length
   .have c2':(0:Int)<((vY l P h).length:Int):=(by omega);have O:mX l P h t D=26:=(by unfold mX;simp[y,K,c2]);simp[c2];obtain⟨b',hb',hfb⟩:=hG'.frzk (k:=3) fL wP;exact RetF.mk (xh6 rfl hfb xib) ⟨nilS,b',by rw[O],Or.inl ⟨rfl,by unfold A0;simp[O]⟩,by unfold yG;simp[y,K];exact hb'⟩
   .have O:mX l P h t D=0:=(by unfold mX;simp[y,K,c2]);obtain⟨v,hv,hsc⟩:=xbf (d+1) Z C L H hl (by omega) W A.lp (LW A.hp) (by omega) m;obtain⟨u,hu,hjc⟩:=xn4 (d+11) Z C H (-1) m;rw[xp5]at hu;have c2':¬(0:Int)<((vY l P h).length:Int):=(by omega);simp[c2,F,E,hsc,hjc,Z.fO,C.fO,L.clean,dJ,tR,M,Nat.blt];unfold vr;have hul:=((Lab.fresh l.length).joins H.pr).len;simp[hv.len jH,rG];refine nZ (N:=l.length) (λn k o m Y=>Z6 (aG (d+13)) [] 0 n (I D) v u o v (I l.length) (I k) m Y)
     (λk o m=>Gk 1 intE (λid=>id.1=0/\(id.2.2=84\/id.2.2=87)) m o ((qW l P h D).take k)) _ ?_ ?_ NN 0 nilS m _ (by omega) (by rw[dB];omega) (by simpa using Gk.nil)
    .rintro n k o m Y hk w next;have hk':(k:Int)<(l.length:Int):=(by omega);have ixv:=hv.ix fL (show k<(mK l.length (lZ l.length P (jX (fW l P) l.length P) (kQ h))).length by rw[rG];omega);have Q:=λm=>oB (m:=m) (show k<(mK l.length (lZ l.length P (jX (fW l P) l.length P) (kQ h))).length by rw[rG];omega)
     have ixd:=hv.ixI fL (k:=D) d0 (by rw[rG];omega);have R:=λm=>oB (m:=m) (show D.toNat<(mK l.length (lZ l.length P (jX (fW l P) l.length P) (kQ h))).length by rw[rG];omega)
     have ixu:=hu.ix fL (show k<(joinsM (freshM l.length) P).length by omega);have ldu:=λm=>oB (m:=m) (show k<(joinsM (freshM l.length) P).length by omega)
     have ixe:=hu.ixI fL (k:=D) d0 (by omega);have lde:=λm=>oB (m:=m) (show D.toNat<(joinsM (freshM l.length) P).length by omega)
     have gk:=LV (n:=l.length) (φ:=lZ l.length P (jX (fW l P) l.length P) (kQ h)) (v:=(k:Int)) (by omega) hk';rw[jF]at gk;rw[gk]at Q;rw[LV d0 (by omega)]at R;have bk:=DE H A.lp (LW A.hp) (v:=(k:Int)) (by omega) hk';have bd:=DE H A.lp (LW A.hp) (v:=D) d0 (by omega);have j:=xrj (P:=P) (ph:=h) (D:=D) hk;have hol:((qW l P h D).take k).length<=12:=(by simp[KY];omega);unfold oX at bk bd;simp only[Z6];unfold RB vt;simp only[bV,hk',bB,aS,aC,ixv,Q,ixu,ldu,ixe,lde,iD];by_cases c:at0 (joinsM (freshM l.length) P) k=at0 (joinsM (freshM l.length) P) D.toNat
     .have hx:uB l P h D k=lZ l.length P (jX (fW l P) l.length P) (kQ h) k-lZ l.length P (jX (fW l P) l.length P) (kQ h) D:=(by unfold uB MI oX;rw[jF,aF c]);rw[hx]at j;obtain⟨o2,m2,e1,e2,-,-,e3,-⟩:=w.app (bytes:=8) (id0:=(0,Y+1+22,84)) fL (by omega) ⟨rfl,.inl rfl⟩ (by unfold cF;omega) (lZ l.length P (jX (fW l P) l.length P) (kQ h) k-lZ l.length P (jX (fW l P) l.length P) (kQ h) D);simp only[c,bB,aS,ixd,R,aC,mZ,nQ];rw[bU];simp only[ci];rw[show ∀x:Int,elems m.get 1 (.aN [I x] 1 true)=some (intE x,1)from λ_=>rfl,e1];unfold IJ;simp(disch:=omega) [bU];exact next o2 m2 _ (by rw[j];exact e2)
     .have hx:uB l P h D k=1000000000000:=(by unfold uB MI;rw[jF,aB c]);rw[hx]at j;obtain⟨o2,m2,e1,e2,-,-,e3,-⟩:=w.app (bytes:=8) (id0:=(0,Y+1+16,87)) fL (by omega) ⟨rfl,.inr rfl⟩ (by unfold cF;omega) (1000000000000:Int);simp only[c,bO,aT,nQ,ci];rw[show ∀x:Int,elems m.get 1 (.aN [I x] 1 true)=some (intE x,1)from λ_=>rfl,e1];unfold IJ;simp(disch:=omega) [bU];exact next o2 m2 _ (by rw[j];exact e2)
    .rintro n o m Y w;rw[dT (by rw[KY];exact bS _)]at w;simp only[Z6];unfold RB vu;simp;obtain⟨a',ha',hfa⟩:=w.sl1 3;have hO:vY l P h=[]:=rV.mp (by omega);exact RetF.mk (xh6 hfa rfl xib) ⟨a',nilS,by rw[O],by unfold A0;simp[O];exact ha',Or.inl ⟨rfl,by unfold yG;simp[y,K,hO]⟩⟩
end Go.Ix
namespace Go.Ix
open Go.Proofs
def idxQ{α:Type}(q:α->Bool):Int->List α->Int
 |_,[]=>-1
 |k,x::r=>bif q x then k else idxQ q (k+1) r
def F6{α:Type}(q:α->Bool):∀(l:List α) (k:Int),(idxQ q k l=-1/\∀x∈l,q x=false)\/∃i:Nat,idxQ q k l=k+i/\∃h:i<l.length,q l[i]=true
 |[],k=>.inl ⟨rfl,λx a=>by cases a⟩
 |x::r,k=>by
  rw[idxQ];cases a:q x with
  |true=>exact .inr ⟨0,by simp,by simp,by simpa using a⟩
  |false=>
   rcases F6 q r (k+1)with ⟨h,d⟩|⟨i,h,g,f⟩
   .exact .inl ⟨h,λy b=>(dV.mp b).elim (λe=>e▸a) (d y)⟩
   .exact .inr ⟨i+1,by simp only[cond_false,h];omega,by simp;omega,by simpa using f⟩
def dl(z:Nat)(b:aJ)(Z:FHs)(d:AV->AV->AV->AV->Mem->Nat->O2)(i j l e:AV)(m:Mem)(Y:Nat):O2:=
 (cA e l).bind λn=>aK n ((aV z i e).bind λf=>(aA true z f m).bind λg=>(fD b Z 2 j [g] m).bind λa=>aK a.1 (some (e,a.2)) ((bM e (I 1)).bind λh=>d i j l h a.2 (Y+11))) (some (I (-1),m))
def V1{α:Type}{d:α->List AV}{z:Nat}(w:∀x,(d x).length=z)(H:0<z){call:aJ}{Z:FHs}{q:α->Bool}{a fv:AV}{l:List α}(h:Sl d a l)(O:l.length<=1000000)(f:∀x∈l,∀m,∃o,fD call Z 2 fv [.agg (d x)] m=some (B (q x),o))(X:Nat->AV->AV->AV->AV->Mem->Nat->O2)(y:∀n A C D E m Y,X (n+1) A C D E m Y=dl z call Z (X n) A C D E m Y):∀(b:List α) (k j:Nat) (m:Mem) (Y:Nat),l.drop k=b->b.length<j ->
    ∃p,X j a fv (I l.length) (I k) m Y=some (I (idxQ q k b),p):=by
 intro b;induction b with
 |nil=>intro k j m Y t i;obtain⟨j,rfl⟩:=dD i;have g:¬((k:Int)<(l.length:Int)):=(by have:=gF.mp t;omega);rw[y];unfold dl;simp only[bV,g,bO,aC,aT,idxQ];exact⟨m,rfl⟩
 |cons e r N=>
  intro k j m Y t i;obtain⟨j,rfl⟩:=dD i;obtain⟨g,K,u⟩:=gB t;have hk':(k:Int)<(l.length:Int):=(by omega);have ix:=h.ix w g;have ld:=λm=>iH (m:=m) w H g
  have F:=eU g;rw[K]at ld F;have J:=gJ k (by omega);obtain⟨o,L⟩:=f e F m;rw[y];unfold dl;simp only[bV,hk',bB,aS,aC,ix,ld,L,idxQ];cases P:q e with
  |true=>simp only[aS];exact⟨_,rfl⟩
  |false=>obtain⟨p,M⟩:=N (k+1) j o (Y+11) u (by simp at i;omega);simp only[aT,dS,aC,J,M,cond_false];exact⟨p,rfl⟩
def X3{l:List AV}(h:l.all AV.one=true):(AV.agg l).cells.all AV.one=true:=h
variable{A pa ea:AV}{W:List Bd}{J:List Pn}{C:List Pe}{E O:Int}
abbrev SC(E O:Int)(A pa ea:AV):List AV:=[I E,I O,A,pa,ea]
def nmQ{α:Type}(nm:α->ByteArray)(x:ByteArray)(y:α):Bool:=gY (nm y) x
def x35(d:Nat){x:ByteArray}(h:Sl Pn.c pa J)(i:J.length<=1000):∃a,aG (d+2) [] EF [pa,.clo D6 [.aH [T x]]] mem0=some (I (idxQ (nmQ Pn.nm x) 0 J),a):=by
 obtain⟨a,r⟩:=V1 Pn.len (by omega) (q:=nmQ Pn.nm x) h (by omega) (call:=aG (d+1)) (Z:=[]) (fv:=.clo D6 [.aH [T x]]) (λe _ m=>by
  show ∃a,aG (d+1) [] D6 ([.agg e.c]++[.aH [T x]]) m=_
  rw[iO,iX,ybi]
  unfold qu aU VO
  simp only[iE,X3 (show e.c.all AV.one=true from rfl),bC]
  generalize f:Mem.new _ _ _=M
  have g:M.get (m.next,0,2)=some (.row e.c 0 false):=by rw[<-f,Mem.lF];rfl
  have b:∀m,aA false 1 (.aH [T x]) m=some (T x):=λ_=>rfl
  simp only[cW,aC,bW,aQ g,bF,Pn.c,dE,b,yE]
  exact⟨_,rfl⟩) (OI (aG (d+1)) [] 0) (λ_ _ _ _ _ _ _=>rfl) J 0 NN ⟨[],1⟩ 4 rfl (by rw[dB];omega)
 refine⟨a,?_⟩;rw[x9l];unfold nh aU SA wy;simp only[h.len vP,aC,mem0];exact r
def x34(d:Nat){x:ByteArray}{sc:AV}{S:List Scene}(h:Sl Scene.c sc S)(i:S.length<=1000):∃a,aG (d+2) [] D0 [sc,.clo D5 [.aH [T x]]] mem0=some (I (idxQ (nmQ Scene.nm x) 0 S),a):=by
 obtain⟨a,r⟩:=V1 Scene.len (by omega) (q:=nmQ Scene.nm x) h (by omega) (call:=aG (d+1)) (Z:=[]) (fv:=.clo D5 [.aH [T x]]) (λe _ m=>by
  show ∃a,aG (d+1) [] D5 ([.agg e.c]++[.aH [T x]]) m=_
  rw[iO,iX,ybg]
  unfold qs aU VM
  simp only[iE,X3 (show e.c.all AV.one=true from rfl),bC]
  generalize f:Mem.new _ _ _=M
  have g:M.get (m.next,0,2)=some (.row e.c 0 false):=by rw[<-f,Mem.lF];rfl
  have b:∀m,aA false 1 (.aH [T x]) m=some (T x):=λ_=>rfl
  simp only[cW,aC,bW,aQ g,bF,Scene.c,dE,b,yE]
  exact⟨_,rfl⟩) (J0 (aG (d+1)) [] 0) (λ_ _ _ _ _ _ _=>rfl) S 0 NN ⟨[],1⟩ 4 rfl (by rw[dB];omega)
 refine⟨a,?_⟩;rw[xjp];unfold OU aU IN RY;simp only[h.len mG,aC,mem0];exact r
def x4c(d:Nat){x:ByteArray}(h:Sl Bd.c A W)(i:W.length<=1000):∃a,aG (d+2) [] EG [A,.clo D8 [.aH [T x]]] mem0=some (I (idxQ (nmQ Bd.nm x) 0 W),a):=by
 obtain⟨a,r⟩:=V1 Bd.len (by omega) (q:=nmQ Bd.nm x) h (by omega) (call:=aG (d+1)) (Z:=[]) (fv:=.clo D8 [.aH [T x]]) (λe _ m=>by
  show ∃a,aG (d+1) [] D8 ([.agg e.c]++[.aH [T x]]) m=_
  rw[iO,iX,ybp]
  unfold rf aU VW
  simp only[iE,X3 e.one,bC]
  generalize f:Mem.new _ _ _=M
  have g:M.get (m.next,0,2)=some (.row e.c 0 false):=by rw[<-f,Mem.lF];rfl
  have b:∀m,aA false 1 (.aH [T x]) m=some (T x):=λ_=>rfl
  simp only[cW,aC,bW,aQ g,bF,Bd.c,dE,b,yE]
  exact⟨_,rfl⟩) (OM (aG (d+1)) [] 0) (λ_ _ _ _ _ _ _=>rfl) W 0 NN ⟨[],1⟩ 4 rfl (by rw[dB];omega)
 refine⟨a,?_⟩;rw[x9p];unfold np aU SF xc;simp only[h.len yC,aC,mem0];exact r
def gv{b:aJ}{f g:FuncId}{a r:AV}{x:ByteArray}{M d:Mem}{id:Id}(e:bD a=true)(i:M.get id=some (.row [T x] 0 false))(j:rF r=true)(h:b [] f [a,.clo g [.aH [T x]]] mem0=some (r,d)):fC b f [a,.clo g [.ptr id 0 0]] M=some (r,M):=by refine xD ?_ h j;have l:Go.Ix.frz M.get bR a=some a:=kA _ 4 e;have m:Go.Ix.frz M.get 5 (.ptr id 0 0)=some (.aH [T x]):=rQ i rfl;have n:Go.Ix.frz M.get bR (.clo g [.ptr id 0 0])=some (.clo g [.aH [T x]]):=(by show([AV.ptr id 0 0].mapM (Go.Ix.frz M.get 5)).map (AV.clo g)=_;simp only[eO,gS,m];rfl);simp only[eO,gS,l,n];rfl
abbrev FB(E O:Int)(A a b sc d e f:AV):AV:=.agg [.aH (SC E O A a b),sc,d,e,f]
variable{sc pr lv cf:AV}
def x36(d:Nat){x:ByteArray}(h:Sl Pn.c pa J)(f:J.length<=1000)(g:[sc,pr,lv,cf].all AV.one=true):∃i,aG (d+3) [] D7 [FB E O A pa ea sc pr lv cf,T x] mem0=some (I (idxQ (nmQ Pn.nm x) 0 J),i):=by
 obtain⟨t,r⟩:=x35 d (x:=x) h f;rw[ybj];unfold qv aU VP;have a:(FB E O A pa ea sc pr lv cf).cells.all AV.one=true:=(by show((AV.aH (SC E O A pa ea)).one&&[sc,pr,lv,cf].all AV.one)=true;rw[g];rfl);have b:(T x).cells.all AV.one=true:=rfl;simp only[mem0,iE,a,b,bC];generalize e:Mem.new (Mem.new _ _ _) _ _=M;have j:M.get (0,0,2)=some (.row [.aH (SC E O A pa ea),sc,pr,lv,cf] 0 false):=(by rw[<-e,Mem.zL (by simp),Mem.lF];rfl);have l:M.get (0,1,3)=some (.row [T x] 0 false):=(by rw[<-e,Mem.lF];rfl);have n:cD (.aH (SC E O A pa ea))=some (.aH (SC E O A pa ea)):=rfl;have o:aE 3 (.aH (SC E O A pa ea))=some (.aH [pa,ea]):=rfl;have p:∀m,aA false 1 (.aH [pa,ea]) m=some pa:=λ_=>rfl
 simp only[cW,aC,bW,aQ j,bF,dE,n,o,p,gv h.bD l rfl r];exact⟨_,rfl⟩
def x4b(d:Nat){x:ByteArray}(h:Sl Bd.c A W)(f:W.length<=1000)(g:[sc,pr,lv,cf].all AV.one=true):∃i,aG (d+3) [] wJ [FB E O A pa ea sc pr lv cf,T x] mem0=some (I (idxQ (nmQ Bd.nm x) 0 W),i):=by
 obtain⟨t,r⟩:=x4c d (x:=x) h f;rw[ybq];unfold rh aU VY;have a:(FB E O A pa ea sc pr lv cf).cells.all AV.one=true:=(by show((AV.aH (SC E O A pa ea)).one&&[sc,pr,lv,cf].all AV.one)=true;rw[g];rfl);have b:(T x).cells.all AV.one=true:=rfl;simp only[mem0,iE,a,b,bC];generalize e:Mem.new (Mem.new _ _ _) _ _=M;have j:M.get (0,0,2)=some (.row [.aH (SC E O A pa ea),sc,pr,lv,cf] 0 false):=(by rw[<-e,Mem.zL (by simp),Mem.lF];rfl);have l:M.get (0,1,3)=some (.row [T x] 0 false):=(by rw[<-e,Mem.lF];rfl);have n:cD (.aH (SC E O A pa ea))=some (.aH (SC E O A pa ea)):=rfl;have o:aE 2 (.aH (SC E O A pa ea))=some (.aH [A,pa,ea]):=rfl;have p:∀m,aA false 1 (.aH [A,pa,ea]) m=some A:=λ_=>rfl
 simp only[cW,aC,bW,aQ j,bF,dE,n,o,p,gv h.bD l rfl r];exact⟨_,rfl⟩
def x33(d:Nat){x:ByteArray}{S:List Scene}{p:AV}(h:Sl Scene.c sc S)(f:S.length<=1000)(g:p.one=true)(i:[sc,pr,lv,cf].all AV.one=true):∃j,aG (d+3) [] wH [.agg [p,sc,pr,lv,cf],T x] mem0=some (I (idxQ (nmQ Scene.nm x) 0 S),j):=by obtain⟨o,n⟩:=x34 d (x:=x) h f;rw[ybh];unfold qt aU VN;have a:(AV.agg [p,sc,pr,lv,cf]).cells.all AV.one=true:=(by simpa[g]using i);have b:(T x).cells.all AV.one=true:=rfl;simp only[mem0,iE,a,b,bC];generalize e:Mem.new (Mem.new _ _ _) _ _=M;have l:M.get (0,0,2)=some (.row [p,sc,pr,lv,cf] 0 false):=(by rw[<-e,Mem.zL (by simp),Mem.lF];rfl);have m:M.get (0,1,3)=some (.row [T x] 0 false):=(by rw[<-e,Mem.lF];rfl);simp only[cW,aC,bW,aQ l,dR,bF,dE,gv h.bD m rfl n];exact⟨_,rfl⟩
structure OPr where
 pt:Int
 a:Int
 b:Int
 f:Int
def OPr.c(p:OPr):List AV:=[I p.pt,I p.a,I p.b,I p.f]
theorem OPr.len(p:OPr):p.c.length=4:=rfl
theorem OPr.bD(p:OPr):p.c.all aP=true:=rfl
def OPr.q(p:OPr):Pq:=⟨p.a,p.b⟩
def ofPt(i:Int)(S:List OPr):List OPr:=S.filter λp=>decide (p.pt=i)
def on10(n:Nat):List Int:=List.replicate n 1
def xzn(k:Nat):on10 (k+1)=on10 k++[1]:=List.replicate_succ'
def tB(D:Int)(p:OPr):Int:=if D<0\/p.a<D then p.a else D
def mC(Q:List OPr):Int:=Q.foldl tB (-1)
def x0n{S:List OPr}{i:Int}{k:Nat}(a:k<S.length):ofPt i (S.take (k+1))=ofPt i (S.take k)++(if S[k].pt=i then[S[k]]else[]):=by unfold ofPt;rw[mS a,xQ];congr 1;by_cases c:S[k].pt=i<;>simp[c]
def xfc(S:List OPr)(i:Int):(ofPt i S).length<=S.length:=NZ _ _
def BX:prog.underlying mW=some (.slice xZ):=by kernel_rfl
def xa2:tP=[I 0,I 0,I 0,I 0]:=by kernel_rfl
def xax:BO=[nilS,nilS,nilS,nilS]:=by kernel_rfl
def xna:L0=[nilS,nilS]:=by kernel_rfl
def x1u{p q:Int}{id:Id}{m:Mem}{R:Type}{k:AV->Mem->Option R}:cV [I 0,I 0] [(0,2,.agg [I p,I q])] 1 2 id m k=k (.aN [I p,I q] 1 true) m:=by simp[cV,iM,eQ,rU,fO,AV.one,Value.oneCell']
def ydg{p q:Int}:dA [I 0,I 0] [(0,1,I p),(1,1,I q)]=some (.agg [I p,I q]):=by simp[dA,iM]
theorem x6y{p q:Int}(a:Id->Option Ob):elems a 2 (.aN [I p,I q] 1 true)=some (Pq.c ⟨p,q⟩,1):=rfl
theorem x6x{x:Int}(a:Id->Option Ob):elems a 1 (.aN [I x] 1 true)=some (intE x,1):=rfl
abbrev okT10(t:Nat)(id:Id):Prop:=id.1=0/\id.2.2=t
def Gk.apart{α:Type}{z:Nat}{n:α->List AV}{t:Nat}{m:Mem}{a:AV}{l:List α}(h:Gk z n (okT10 t) m a l)(f:Id)(A:f.2.2=t)(x:Int){r w:List Id}(b:∀i∈r++w,i.2.2≠t):aZ (tX (.aN [I x] 1 true),tA f a) (some r,some w)=true:=by
 have g:∀id:Id,id.2.2=t->aZ (some [],some [id]) (some r,some w)=true:=λid d=>by
  have E:r.contains id=false:=(by rw[kV,ne_eq,jp];exact λo=>b id (xO _ o) d);have u:w.contains id=false:=(by rw[kV,ne_eq,jp];exact λo=>b id (jj _ o) d);have C:r.all (λi=>!([id].contains i))=true:=by
   rw[dG];intro i p;have:i≠id:=λe=>b i (xO _ p) (e▸d)
   simp[this]
  unfold aZ jP;split
  .rfl
  .rfl
  .rename_i j y;simp only[bK,bY]at j y;obtain⟨rfl,rfl⟩:=j;obtain⟨rfl,rfl⟩:=y;have F:w.all (λi=>!([id].contains i))=true:=by
    rw[dG];intro i p;have:i≠id:=λe=>b i (jj _ p) (e▸d)
    simp[this]
   simp only[nP,dY,u,C,cC,iL]
  .rename_i j;exact absurd rfl (j _ _ _ _ rfl)
 rcases h with ⟨rfl,-⟩|⟨id,D,⟨-,u⟩,rfl,-⟩
 .exact g f A
 .exact g id u
variable{A pa ea sc pr lv cf:AV}{E O:Int}
structure TkI (A pa ea sc pr lv cf:AV) (wv mg:Int) (S:List OPr) (i:Int) (k:Nat) (m:Mem):Prop where
 g2:m.get (0,0,2)=some (.row [.aH (SC wv mg A pa ea),sc,pr,lv,cf] 0 false)
 g4:m.get (0,1,4)=some (.row [nilS,nilS,nilS,nilS] 0 false)
 g6:∃p f g,m.get (0,8,6)=some (.row [sc,p,f,g] 0 false)/\Gk 2 Pq.c (okT10 36) m p ((ofPt i (S.take k)).map OPr.q)/\Gk 1 intE (okT10 44) m f ((ofPt i (S.take k)).map OPr.f)/\Gk 1 intE (okT10 48) m g (on10 (ofPt i (S.take k)).length)
def TkR(sc:AV)(Q:List OPr)(v:AV):Prop:=∃p f g,v=.tup [.agg [sc,p,f,g],I (mC Q)]/\Sl Pq.c p (Q.map OPr.q)/\Ints f (Q.map OPr.f)/\Ints g (on10 Q.length)
def yej(d:Nat){L:List Scene}{S:List OPr}(Z:Sl Scene.c sc L)(hp:Sl OPr.c pr S)(ho:lv.one=true/\cf.one=true)(hS:S.length<=1000)(i:Int) :
    RetF (TkR sc (ofPt i S)) (aG (d+1) [] FG [FB E O A pa ea sc pr lv cf,I i] mem0):=by
 rw[ybf];unfold qr aU VK;have ho1:(FB E O A pa ea sc pr lv cf).cells.all AV.one=true:=(by show((AV.aH (SC E O A pa ea)).one&&[sc,pr,lv,cf].all AV.one)=true;simp[Z.one,hp.one,ho.1,ho.2];rfl);have hb1:dA [nilS,nilS] [(0,1,sc)]=some (.agg [sc,nilS]):=(by simp[dA,iM,Z.cells]);have hb2:dA [nilS,nilS,nilS,nilS] [(0,2,.agg [sc,nilS])]=some (.agg [sc,nilS,nilS,nilS]):=(by simp[dA,iM]);simp only[mem0,iE,ho1,bC];simp[xax,xna,hb1,hb2,Z.one];generalize X:Mem.set _ _ _=m1;have g2:m1.get (0,0,2)=some (.row [.aH (SC E O A pa ea),sc,pr,lv,cf] 0 false):=(by rw[<-X];simp);have g4:m1.get (0,1,4)=some (.row [nilS,nilS,nilS,nilS] 0 false):=(by rw[<-X];simp);have g6:m1.get (0,8,6)=some (.row [sc,nilS,nilS,nilS] 0 false):=(by rw[<-X];simp);unfold yn;simp[g2,hp.len BX];refine nZ (N:=S.length) (σ:=Int) (λn k D m Y=>J3 (aG d) [] 0 n (I i) (.ptr (0,1,4) 0 0) (.ptr (0,8,6) 0 0) (I D) pr (I S.length) (I k) m Y) (λk D m=>D=mC (ofPt i (S.take k))/\TkI A pa ea sc pr lv cf E O S i k m) _ ?_ ?_ NN 0 (-1) m1 _ (by omega) (by rw[dB];omega) ⟨rfl,g2,g4,nilS,nilS,nilS,g6,Gk.nil,Gk.nil,Gk.nil⟩
 .rintro n k D m Y hk ⟨hD,g2,g4,p,f,g,g6,e1,e2,e3⟩ next;have hk':(k:Int)<(S.length:Int):=(by omega);have ix:=hp.ix OPr.len hk;have ld:=λm=>iH (m:=m) (enc:=OPr.c) OPr.len (by omega) hk
  have o:=x0n (i:=i) hk;have hle:(ofPt i (S.take k)).length<=S.length:=iW (xfc _ _) (by rw[lV];omega);generalize S[k]=q at *
  have hw:cJ ((k:Int)+1)=((k+1:Nat):Int):=(by rw[bU];rfl);have J:∀D2 l fc2,D2=mC (ofPt i (S.take (k+1)))->TkI A pa ea sc pr lv cf E O S i (k+1) l->RetF (TkR sc (ofPt i S)) (BG (aG d) [] 0 (J3 (aG d) [] 0 n) (I i) (.ptr (0,1,4) 0 0) (.ptr (0,8,6) 0 0) (I D2) pr (I S.length) (I k) l fc2):=λD2 l fc2 t x=>by unfold BG;simp only[dS,aC,hw];exact next D2 l _ ⟨t,x⟩
  simp only[J3];unfold VL yp;simp[hk,ix,ld,xa2,OPr.c];generalize M:Mem.set _ _ _=l;have h9:l.get (0,Y+1+2,9)=some (.row q.c 0 false):=(by rw[<-M];simp[OPr.c]);have y:∀j:Id,j.2.2≠9->l.get j=m.get j:=λj e=>by rw[<-M,Mem.bG,aB (by rintro rfl;simp at e),Mem.dI,aB (by rintro rfl;simp at e)]
  have k2:l.get (0,0,2)=some (.row [.aH (SC E O A pa ea),sc,pr,lv,cf] 0 false):=(by rw[y _ (by simp)];exact g2);have k4:l.get (0,1,4)=some (.row [nilS,nilS,nilS,nilS] 0 false):=(by rw[y _ (by simp)];exact g4);have k6:l.get (0,8,6)=some (.row [sc,p,f,g] 0 false):=(by rw[y _ (by simp)];exact g6);have i1:Gk 2 Pq.c (okT10 36) l p ((ofPt i (S.take k)).map OPr.q):=e1.frame λj e=>y _ (by have:=e.2;omega)
  have i2:Gk 1 intE (okT10 44) l f ((ofPt i (S.take k)).map OPr.f):=e2.frame λj e=>y _ (by have:=e.2;omega)
  have i3:Gk 1 intE (okT10 48) l g (on10 (ofPt i (S.take k)).length):=e3.frame λj e=>y _ (by have:=e.2;omega)
  by_cases c:q.pt=i;rotate_left
  .rw[aB c,hW]at o;simp[c];exact J D l _ (by rw[hD,o]) ⟨k2,k4,p,f,g,k6,by rw[o];exact i1,by rw[o];exact i2,by rw[o];exact i3⟩
  rw[aF c]at o;obtain⟨u,m3,a1,a2,a3,a4,a5,a6⟩:=i1.app (bytes:=16) (id0:=(0,Y+1+17,36)) Pq.len (by omega) ⟨rfl,rfl⟩ (by unfold cF;simp;omega) q.q;have s6:m3.get (0,8,6)=some (.row [sc,p,f,g] 0 false):=(by rw[a6 _ (by simp[okT10])];exact k6);have st1:pL 1 0 1 u (some (.row [sc,p,f,g] 0 false))=some (.row [sc,u,f,g] 0 false):=(by simp[a3,a4]);have l2:sR false 1 0 2 (some (.row [sc,u,f,g] 0 false))=some f:=rfl;generalize P:m3.set (0,8,6) (.row [sc,u,f,g] 0 false)=m4;have R:∀j:Id,j≠(0,8,6)->¬okT10 36 j->m4.get j=l.get j:=λj t x=>by rw[<-P,Mem.bG,aB t,a6 _ x]
  have q3:m3.get (0,Y+1+2,9)=some (.row q.c 0 false):=(by rw[a6 _ (by simp[okT10])];exact h9);have j2:Gk 1 intE (okT10 44) m4 f ((ofPt i (S.take k)).map OPr.f):=i2.frame λj e=>R _ (by rintro rfl;simp[okT10]at e) (by intro h;have t:=h.2;have x:=e.2;omega)
  obtain⟨Q,m5,b1,b2,b3,b4,b5,b6⟩:=j2.app (bytes:=8) (id0:=(0,Y+1+26,44)) fL (by omega) ⟨rfl,rfl⟩ (by unfold cF;simp;omega) q.f;have s5:m5.get (0,8,6)=some (.row [sc,u,f,g] 0 false):=(by rw[b6 _ (by simp[okT10]),<-P];simp);have l3:sR false 1 0 3 (some (.row [sc,u,f,g] 0 false))=some g:=rfl;have j3:Gk 1 intE (okT10 48) m5 g (on10 (ofPt i (S.take k)).length):=i3.frame λj e=>by rw[b6 _ (by intro h;have t:=h.2;have x:=e.2;omega),R _ (by rintro rfl;simp[okT10]at e) (by intro h;have t:=h.2;have x:=e.2;omega)]
  obtain⟨K,m6,c1,c2,c3,c4,c5,c6⟩:=j3.app (bytes:=8) (id0:=(0,Y+1+30,48)) fL (by omega) ⟨rfl,rfl⟩ (by unfold cF on10;simp;omega) 1;have s7:m6.get (0,8,6)=some (.row [sc,u,f,g] 0 false):=(by rw[c6 _ (by simp[okT10])];exact s5);have st2:pL 1 0 2 Q (some (.row [sc,u,f,g] 0 false))=some (.row [sc,u,Q,g] 0 false):=(by simp[b3,b4]);have st3:pL 1 0 3 K (some (.row [sc,u,Q,g] 0 false))=some (.row [sc,u,Q,K] 0 false):=(by simp[c3,c4]);generalize C:m6.set (0,8,6) (.row [sc,u,Q,g] 0 false)=m7;have s8:m7.get (0,8,6)=some (.row [sc,u,Q,g] 0 false):=(by rw[<-C];simp);generalize F:m7.set (0,8,6) (.row [sc,u,Q,K] 0 false)=m8;have W:∀j:Id,j≠(0,8,6)->¬okT10 36 j->¬okT10 44 j->¬okT10 48 j->m8.get j=l.get j:=λj t x h3 h4=>by rw[<-F,Mem.bG,aB t,<-C,Mem.bG,aB t,c6 _ h4,b6 _ h3,R _ t x]
  have q9:m8.get (0,Y+1+2,9)=some (.row q.c 0 false):=(by rw[W _ (by simp) (by simp[okT10]) (by simp[okT10]) (by simp[okT10])];exact h9);have n2:m8.get (0,0,2)=some (.row [.aH (SC E O A pa ea),sc,pr,lv,cf] 0 false):=(by rw[W _ (by simp) (by simp[okT10]) (by simp[okT10]) (by simp[okT10])];exact k2);have n4:m8.get (0,1,4)=some (.row [nilS,nilS,nilS,nilS] 0 false):=(by rw[W _ (by simp) (by simp[okT10]) (by simp[okT10]) (by simp[okT10])];exact k4);have hT:TkI A pa ea sc pr lv cf E O S i (k+1) m8:=by
   refine⟨n2,n4,u,Q,K,by rw[<-F];simp,?_,?_,?_⟩<;>rw[o]
   .rw[nN];exact a2.frame λj e=>by rw[<-F,Mem.bG,aB (by rintro rfl;simp[okT10]at e),<-C,Mem.bG,aB (by rintro rfl;simp[okT10]at e),c6 _ (by intro h;have t:=h.2;have x:=e.2;omega),b6 _ (by intro h;have t:=h.2;have x:=e.2;omega),<-P,Mem.bG,aB (by rintro rfl;simp[okT10]at e)]
   .rw[nN];exact b2.frame λj e=>by rw[<-F,Mem.bG,aB (by rintro rfl;simp[okT10]at e),<-C,Mem.bG,aB (by rintro rfl;simp[okT10]at e),c6 _ (by intro h;have t:=h.2;have x:=e.2;omega)]
   .rw[eT,jl,xzn];exact c2.frame λj e=>by rw[<-F,Mem.bG,aB (by rintro rfl;simp[okT10]at e),<-C,Mem.bG,aB (by rintro rfl;simp[okT10]at e)]
  have H:mC (ofPt i (S.take (k+1)))=tB D q:=(by rw[o,hD];unfold mC;rw[jn];rfl);have ap1:aZ (tX (.aN [I q.f] 1 true),tA (0,Y+1+26,44) f) (tR (.ptr (0,8,6) 0 3))=true:=j2.apart (0,Y+1+26,44) rfl q.f (r:=[(0,8,6)]) (w:=[]) (by simp);have ap2:aZ (tX (.aN [I q.f] 1 true),tA (0,Y+1+26,44) f) (some [],some [(0,Y+1+29,47)])=true:=j2.apart (0,Y+1+26,44) rfl q.f (by simp);have l3':sR false 1 0 3 (some (.row q.c 0 false))=some (I q.f):=rfl;have l1':sR false 1 0 1 (some (.row q.c 0 false))=some (I q.a):=rfl;have l1:sR false 1 0 1 (some (.row [sc,p,f,g] 0 false))=some p:=rfl;simp only[c,bB,cE,aT,g6,l1,aC,v6,ydg,x1u,x6y];rw[show Pq.c ⟨q.a,q.b⟩=q.q.c from rfl,a1];simp only[s6,st1,aC,l2,P,q3,l3',nQ,ci,x6x,b1,s5,l3,c1,s7,st2,C,st3,F];simp only[ap1,ap2];simp[aZ,jP,tR];have hin:tB D q=D\/tB D q=q.a:=(by unfold tB;split<;>simp);by_cases c7:D<0
  .have:tB D q=q.a:=(by unfold tB;simp[c7]);simp[c7,q9,OPr.c];exact J _ m8 _ (by rw[H,this]) hT
  .by_cases c8:q.a<D
   .have:tB D q=q.a:=(by unfold tB;simp[c8]);simp[c7,c8,q9,OPr.c];exact J _ m8 _ (by rw[H,this]) hT
   .have:tB D q=D:=(by unfold tB;simp[c7,c8]);simp[c7,c8,q9,OPr.c];exact J _ m8 _ (by rw[H,this]) hT
 .rintro n D m Y ⟨hD,g2,g4,p,f,g,g6,e1,e2,e3⟩;rw[dT (bS _)]at hD e1 e2 e3;have o1:p.one=true/\f.one=true/\g.one=true:=⟨e1.one.2,e2.one.2,e3.one.2⟩;simp only[J3];unfold VL yq;simp[g6,g4,Z.one,o1.1,o1.2.1,o1.2.2,kY];generalize M:Mem.set m _ _=l;have hf:∀j:Id,j≠(0,1,4)->l.get j=m.get j:=λj e=>by rw[<-M,Mem.bG,aB e]
  obtain⟨p',t,f1⟩:=(e1.frame (m':=l) λj e=>hf _ (by rintro rfl;simp[okT10]at e)).frz (k:=2) Pq.len Pq.bD;obtain⟨f',x,f2⟩:=(e2.frame (m':=l) λj e=>hf _ (by rintro rfl;simp[okT10]at e)).frz (k:=2) fL wP;obtain⟨g',h3,f3⟩:=(e3.frame (m':=l) λj e=>hf _ (by rintro rfl;simp[okT10]at e)).frz (k:=2) fL wP;have f0:Go.Ix.frz l.get 4 sc=some sc:=kA _ 2 Z.bD;exact RetF.mk (x5j (xia (k:=3) f0 f1 f2 f3) rfl) ⟨p',f',g',by rw[hD],t,x,h3⟩
def YX(d:Nat)(a b c:Int)(m:Mem):aI (aG (d+1)) wC [I a,I b,I c] m=some (B (wi a b c),m):=by refine eR rfl (m':=⟨[],1⟩) ?_ rfl;rw[yaa];unfold ou hJ TE wi;by_cases h:b<=a<;>by_cases e:a<=c<;>simp[h,e,mem0]
def xn1(d:Nat)(a b:Int)(m:Mem)(h:-9223372036854775807<=b/\b<=9223372036854775807):aI (aG (d+2)) R9 [I a,I b] m=some (B (wi a (-b) b),m):=by refine eR rfl (m':=⟨[],1⟩) ?_ rfl;rw[yab];unfold ov aU TF;simp(disch:=omega) [mem0,YX,bU]
end Go.Ix
namespace Go.Ix
open Go.Proofs
variable{A pa ea sc pr lv cf:AV}{E O:Int}
def MG(L:List Scene)(Q:List OPr):Int:=mX L (Q.map OPr.q) (Q.map OPr.f) (on10 Q.length) (mC Q)
def iG(L:List Scene)(Q:List OPr):Int:=if mC Q<0 then 0 else if MG L Q=0 then 2 else 1
def fX(L:List Scene)(Q:List OPr):List Int:=if iG L Q=2 then A0 L (Q.map OPr.q) (Q.map OPr.f) (on10 Q.length) (mC Q)else[]
def MF(L:List Scene)(Q:List OPr):List Int:=if iG L Q=1 then yG L (Q.map OPr.q) (Q.map OPr.f) (on10 Q.length) (mC Q)else[]
def ye0(L:List Scene)(Q:List OPr)(v:AV):Prop:=∃p o,v=.agg [I (iG L Q),p,o]/\Ints p (fX L Q)/\Ints o (MF L Q)
def xa0:xW=[I 0,nilS,nilS]:=by kernel_rfl
def xzo(n:Nat):(on10 n).length=n:=by simp[on10]
def yeo(d:Nat){L:List Scene}{S:List OPr}(Z:Sl Scene.c sc L)(u:Sl OPr.c pr S)(w:lv.one=true/\cf.one=true)(l:aP lv=true/\aP cf=true)(N:S.length<=1000)(i:Int)(C:L.length<=12/\L.length<=d+8/\(ofPt i S).length<=19) :
    RetF (ye0 L (ofPt i S)) (aG (d+15) [] FI [FB E O A pa ea sc pr lv cf,I i] mem0):=by
 rw[ybl];unfold qx aU VR;have D:(FB E O A pa ea sc pr lv cf).cells.all AV.one=true:=(by show((AV.aH (SC E O A pa ea)).one&&[sc,pr,lv,cf].all AV.one)=true;simp[Z.one,u.one,w.1,w.2];rfl);have m:[FB E O A pa ea sc pr lv cf,I i].all bD=true:=(by show(([AV.aH (SC E O A pa ea),sc,pr,lv,cf].all aP)&&true)=true;simp[Z.aP,u.aP,l.1,l.2];rfl);simp only[mem0,iE,D,bC];generalize J:Mem.new _ _ _=m1;have P:m1.get (0,0,2)=some (.row [.aH (SC E O A pa ea),sc,pr,lv,cf] 0 false):=(by rw[<-J];simp);obtain⟨v,⟨p,f,g,rfl,e,h,j⟩,Q⟩:=rS m (yej (d+13) (A:=A) (pa:=pa) (ea:=ea) (E:=E) (O:=O) Z u w N i) (m1.new (0,1,4) (.row [I 0,nilS,nilS] 0 false));simp[xa0,P];rw[show AV.agg [AV.aH (SC E O A pa ea),sc,pr,lv,cf]=FB E O A pa ea sc pr lv cf from rfl,Q];simp[xax,Z.one,e.one,h.one,j.one];have n:((ofPt i S).map OPr.f).length<1000000:=(by rw[qK];omega);by_cases c:mC (ofPt i S)<0
 .have a:iG L (ofPt i S)=0:=(by unfold iG;rw[aF c]);have F:dA [I 0,nilS,nilS] [(0,1,I 0)]=some (.agg [I 0,nilS,nilS]):=(by simp[dA,iM]);simp[c,F,kY];exact RetF.st rfl ⟨nilS,nilS,by rw[a],Or.inl ⟨rfl,by unfold fX;rw[a];rfl⟩,Or.inl ⟨rfl,by unfold MF;rw[a];rfl⟩⟩
 .simp[c];generalize K:Mem.set _ _ _=m2;have M:m2.get (0,1,4)=some (.row [I 0,nilS,nilS] 0 false):=(by rw[<-K];simp);obtain⟨v,⟨x,y,rfl,r,t⟩,H⟩:=rS (by simp[Z.aP,e.aP,h.aP,j.aP]) (yet d Z e h j n (by rw[xzo];omega) (λ_=>⟨C.1,C.2.1,by rw[qK];exact C.2.2⟩) (mC (ofPt i S))) m2;simp[H];by_cases o:MG L (ofPt i S)=0
  .have c2':mX L ((ofPt i S).map OPr.q) ((ofPt i S).map OPr.f) (on10 (ofPt i S).length) (mC (ofPt i S))=0:=o;have a:iG L (ofPt i S)=2:=(by unfold iG;rw[aB c,aF o]);have b:dA [I 0,nilS,nilS] [(0,1,I 2),(1,1,x)]=some (.agg [I 2,x,nilS]):=(by simp[dA,iM,r.cells]);simp[c2',b,r.one,M,kY];exact RetF.st (by simp[r.aP]) ⟨x,nilS,by rw[a],by unfold fX;rw[a];exact r,Or.inl ⟨rfl,by unfold MF;rw[a];rfl⟩⟩
  .have c2':¬mX L ((ofPt i S).map OPr.q) ((ofPt i S).map OPr.f) (on10 (ofPt i S).length) (mC (ofPt i S))=0:=o;have a:iG L (ofPt i S)=1:=(by unfold iG;rw[aB c,aB o]);have b:dA [I 0,nilS,nilS] [(0,1,I 1),(2,1,y)]=some (.agg [I 1,nilS,y]):=(by simp[dA,iM,t.cells]);simp[c2',b,t.one,M,kY];exact RetF.st (by simp[t.aP]) ⟨nilS,y,by rw[a],Or.inl ⟨rfl,by unfold fX;rw[a];rfl⟩,by unfold MF;rw[a];exact t⟩
def wM(l:List Int):Nat->Nat
 |0=>0
 |k+1=>if at0 l (k+1)=1000000000000 then wM l k else k+1
def mM(l:List Int):Nat:=wM l (l.length-1)
def cv(l:List Int):∀k,wM l k<=k
 |0=>bS _
 |k+1=>by rw[wM];split;exact Nat.le_succ_of_le (cv l k);exact bS _
def xoe(d:Nat){x:AV}{K:Int}{y:AV}{l:List Int}(b:Ints x l)(n:y.one=true/\aP y=true)(u:l.length<=1000)(m:Mem) :
    aI (aG (d+1)) EY [.agg [I K,x,y]] m=some (I (mM l:Nat),m):=by
 refine eY (by simp[b.aP,n.2]) ?_ m;rw[yam];unfold pi bQ TY xt;generalize a:(⟨[],1⟩:Mem).new (0,0,1) (.row [I K,x,y] 0 false)=m1;have o:m1.get (0,0,1)=some (.row [I K,x,y] 0 false):=(by rw[<-a];simp);simp[mem0,b.one,n.1,a,o,b.len jH];rw[bU];have g:∀(k j:Nat) (Y:Nat),k<l.length->k<j->RetF (λv=>v=I (wM l k:Nat)) (J1 (aG d) [] 0 j (.ptr (0,0,1) 0 0) (I (k:Int)) m1 Y):=by
  intro k;induction k with
  |zero=>intro j Y e f;obtain⟨j,rfl⟩:∃i,j=i+1:=⟨j-1,by omega⟩;simp only[J1];unfold IT TZ;simp;exact RetF.st rfl rfl
  |succ k t=>
   intro j Y e f;obtain⟨j,rfl⟩:∃i,j=i+1:=⟨j-1,by omega⟩;have ix:=b.ix fL e;have ld:=λm=>oB (m:=m) e
   have h:(0:Int)<((k+1:Nat):Int):=(by omega);have p:cJ (((k+1:Nat):Int)-1)=(k:Int):=(by rw[bU];omega);simp only[J1];unfold IT;simp only[fT,h,bB,aC,aS,cW,jJ,o,V0,I0,bC,bW,dR,bF,dE,ix];rw[ld];by_cases c:at0 l (k+1)=1000000000000
   .simp only[aC,fS,c,bB,cE,aT,mZ,p];rw[wM,aF c];exact t j _ (by omega) (by omega)
   .simp only[aC,fS,c,bO,cC,aS];rw[wM,aB c];exact RetF.st rfl rfl
 by_cases h:l.length=0
 .obtain⟨j,f⟩:∃j,NN=j+1:=⟨NN-1,by rw[dB]⟩;have:((l.length:Int)-1)=-1:=(by omega);rw[f,this];simp only[J1];unfold IT TZ;simp;have r:mM l=0:=(by unfold mM;rw[h];rfl);exact RetF.st rfl (by rw[r];rfl)
 .have:((l.length:Int)-1)=((l.length-1:Nat):Int):=(by omega);rw[this];exact g (l.length-1) NN _ (by omega) (by rw[dB];omega)
def xnb:YO=[I 0,I 0,I 0,I 0,I 0]:=by kernel_rfl
def xoa(d:Nat){x y:AV}{K:Int}{l:List Int}(b:Ints x l)(h:y.one=true/\aP y=true)(j:[sc,pr,lv,cf].all AV.one=true)(e:[sc,pr,lv,cf].all aP=true){k:Nat}(i:k<l.length)(m:Mem) :
    aI (aG (d+1)) FH [FB E O A pa ea sc pr lv cf,.agg [I K,x,y],I (k:Int)] m=some (.agg [I 0,I O,I (at0 l k),I O,I E],m):=by
 refine eY ?_ ?_ m
 .show(([AV.aH (SC E O A pa ea),sc,pr,lv,cf].all aP)&&(([I K,x,y].all aP)&&true))=true;rw[dY,e];simp[b.aP,h.2];rfl
 rw[ybk];unfold qw hJ VQ;have f:(FB E O A pa ea sc pr lv cf).cells.all AV.one=true:=(by show((AV.aH (SC E O A pa ea)).one&&[sc,pr,lv,cf].all AV.one)=true;rw[j];rfl);have g:(AV.agg [I K,x,y]).cells.all AV.one=true:=(by simp[b.one,h.1]);simp only[mem0,iE,f,g,bC];generalize a:Mem.new _ _ _=m1;have n:m1.get (0,0,3)=some (.row [.aH (SC E O A pa ea),sc,pr,lv,cf] 0 false):=(by rw[<-a];simp);have o:m1.get (0,1,4)=some (.row [I K,x,y] 0 false):=(by rw[<-a];simp);have p:cD (.aH (SC E O A pa ea))=some (.aH (SC E O A pa ea)):=rfl;have r:aE 1 (.aH (SC E O A pa ea))=some (.aH [I O,A,pa,ea]):=rfl;have t:∀m,aA false 1 (.aH [I O,A,pa,ea]) m=some (I O):=λ_=>rfl
 have u:aE 0 (.aH (SC E O A pa ea))=some (.aH (SC E O A pa ea)):=rfl;have w:∀m,aA false 1 (.aH (SC E O A pa ea)) m=some (I E):=λ_=>rfl
 have ix:=b.ix fL i;have ld:=λm=>oB (m:=m) i
 have C:dA [I 0,I 0,I 0,I 0,I 0] [(1,1,I O),(2,1,I (at0 l k)),(3,1,I O),(4,1,I E)]=some (.agg [I 0,I O,I (at0 l k),I O,I E]):=(by simp[dA,iM]);simp[xnb,n,o,p,r,t,u,w,ix,ld,C,kY];exact RetF.st rfl rfl
def H2(s O E a:Int):Int:=
 if 8192*a < -E*(s+2*O)\/-E*(s-2*O) < -(8192*a)then 2
 else if -(8192*a)<=-E*(s+2*O)/\-E*(s-2*O)<=8192*a then 0 else 1
def xn9(d:Nat){s O E:Int}(Z:-100000000<=s/\s<=100000000)(b:0<=O/\O<=2048)(e:1<=E/\E<=10000)(m:Mem) :
    aI (aG (d+3)) ER [.agg [I 0,I O,I s,I O,I E]] m=some (.tup [I (-E*(s+2*O)),I (-E*(s-2*O)),I 0],m):=by
 refine eY rfl ?_ m;rw[yac];unfold ow bQ TG;generalize a:(⟨[],1⟩:Mem).new (0,0,1) (.row [I 0,I O,I s,I O,I E] 0 false)=m1;have f:m1.get (0,0,1)=some (.row [I 0,I O,I s,I O,I E] 0 false):=(by rw[<-a];simp);have g:wi 0 (-100000000) 100000000=true:=(by decide);have h:wi s (-100000000) 100000000=true:=wi_iff.mpr Z;have i:wi O 0 2048=true:=wi_iff.mpr b;have j:wi E 1 10000=true:=wi_iff.mpr e;have w:(E*(s+2*O)).natAbs<=10000*100004096:=(by rw[xll];exact X8 (by omega) (by omega));have x:(E*(s-2*O)).natAbs<=10000*100004096:=(by rw[xll];exact X8 (by omega) (by omega));have y:-E*(s+2*O)=-(E*(s+2*O)):=Int.neg_mul _ _;have A:-E*(s-2*O)=-(E*(s-2*O)):=Int.neg_mul _ _;have l:cJ (s-0)=s:=(by rw[bU];omega);have n:cJ (O+O)=2*O:=(by rw[bU];omega);have o:cJ (0-E)=-E:=(by rw[bU];omega);have p:cJ (s+2*O)=s+2*O:=bU;have r:cJ (s-2*O)=s-2*O:=bU;have t:cJ (-E*(s+2*O))=-E*(s+2*O):=bU;have u:cJ (-E*(s-2*O))=-E*(s-2*O):=bU;simp only[mem0,iE,nH,dY,nP,vZ,iL,bC,a];unfold xg IR xh;simp only[cW,jJ,f,V0,I0,bC,bW,dR,bF,dE,aC,xn1 _ _ _ _ (show(-9223372036854775807:Int)<=100000000/\(100000000:Int)<=9223372036854775807 by omega),YX,g,h,i,j,eG,cE,dO,fI,dQ,cC,cS,cT,aT,mZ,dS,xdl,LD,l,n,o,p,r,t,u];exact RetF.tup rfl rfl
def xpl(d:Nat){s O E b:Int}(Z:-100000000<=s/\s<=100000000)(r:0<=O/\O<=2048)(t:1<=E/\E<=10000)(u:0<=b/\b<=1000000)(m:Mem) :
    aI (aG (d+4)) ES [.agg [I 0,I O,I s,I O,I E],I b] m=some (.tup [I (H2 s O E b),I 0],m):=by
 refine eY rfl ?_ m;rw[yad];unfold ox aU TH;have w:wi b 0 1000000000=true:=wi_iff.mpr ⟨u.1,by omega⟩;have x:cJ (8192*b)=8192*b:=bU;have y:cJ (0-8192*b)=-(8192*b):=(by rw[bU];omega);have e2':cJ (-(8192*b))=-(8192*b):=bU;have A:∀m:Mem,m.get (0,0,2)=some (.row [I 0,I O,I s,I O,I E] 0 false)->aA true 5 (.ptr (0,0,2) 0 0) m=some (.agg [I 0,I O,I s,I O,I E]):=λm h=>by rw[jJ,h];rfl
 simp only[mem0,iE,nH,dY,nP,vZ,iL,bC];generalize j:Mem.new _ _ _=m1;have C:m1.get (0,0,2)=some (.row [I 0,I O,I s,I O,I E] 0 false):=(by rw[<-j];simp);simp only[A _ C,aC,xn9 d Z r t,lY,kG,kH,fS,bB,cE,aT,YX,w,eG,LD,x,fT,fA,dO,xdl,y];have e:H2 s O E b=if 8192*b < -E*(s+2*O)\/-E*(s-2*O) < -(8192*b)then 2 else if -(8192*b)<=-E*(s+2*O)/\-E*(s-2*O)<=8192*b then 0 else 1:=rfl
 generalize -E*(s+2*O)=o at *
 generalize -E*(s-2*O)=p at *
 have fin:∀(n:Int) (m:Mem),H2 s O E b=n->RetF (λa=>a=.tup [I (H2 s O E b),I 0]) (some (.tup [I n,I 0],m)):=λn m h=>by rw[h];exact RetF.tup rfl rfl
 by_cases f:8192*b<o
 .simp[f];exact fin 2 _ (by rw[e,aF (.inl f)])
 .by_cases g:p < -(8192*b)
  .simp[f,g,e2'];exact fin 2 _ (by rw[e,aF (.inr g)])
  .by_cases i:-(8192*b)<=o
   .by_cases l:p<=8192*b
    .simp[f,g,i,l,e2'];exact fin 0 _ (by rw[e,aB (by omega),aF ⟨i,l⟩])
    .simp[f,g,i,l,e2'];exact fin 1 _ (by rw[e,aB (by omega),aB (by omega)])
   .simp[f,g,i,e2'];exact fin 1 _ (by rw[e,aB (by omega),aB (by omega)])
def xgq{l:List Int}:∀(k j:Nat),j<=k->at0 l j≠1000000000000->at0 l (wM l k)≠1000000000000
 |0,j,h,a=>by have:j=0:=(by omega);subst this;exact a
 |k+1,j,h,a=>by
  rw[wM];by_cases c:at0 l (k+1)=1000000000000
  .rw[aF c];have:j≠k+1:=λe=>a (e▸c)
   exact xgq k j (by omega) a
  .rw[aB c];exact c
def xki{l:List Scene}{P:List Pq}{a:List Int}{D:Int}{v:Nat}(b:v<l.length):at0 (qW l P a D) v=uB l P a D v:=by rw[fH (by rw[KY];exact b)];simp[qW,freshM]
def xri{l:List Scene}{P:List Pq}{a d:List Int}{D:Int}(h:mX l P a d D=0):tY l P a d=0/\wi D 0 ((l.length:Int)-1)=true/\vY l P a=[]:=by
 unfold mX at h;by_cases b:tY l P a d=0
 .cases e:wi D 0 ((l.length:Int)-1)with
  |false=>simp[b,e]at h
  |true=>
   by_cases f:0<(vY l P a).length
   .simp[b,e,f]at h
   .exact⟨b,rfl,rV.mp (by omega)⟩
 .simp[b]at h
def x2j{L:List Scene}{Q:List OPr}(h:iG L Q=2)(F:L.length<=12)(t:∀p∈Q,p.f.natAbs<=400000):(fX L Q).length=L.length/\0<L.length/\-100000000<=at0 (fX L Q) (mM (fX L Q))/\at0 (fX L Q) (mM (fX L Q))<=100000000:=by
 have x:MG L Q=0:=by
  unfold iG at h;by_cases c:mC Q<0
  .rw[aF c]at h;omega
  .rw[aB c]at h;by_cases o:MG L Q=0
   .exact o
   .rw[aB o]at h;omega
 have hE':mX L (Q.map OPr.q) (Q.map OPr.f) (on10 Q.length) (mC Q)=0:=x;obtain⟨C,E,M⟩:=xri hE';obtain⟨N,O⟩:=y6 E;have j:fX L Q=qW L (Q.map OPr.q) (Q.map OPr.f) (mC Q):=(by unfold fX;rw[aF h];unfold A0;rw[hE'];rfl);have y:=(xcs C).r;have l:0<L.length:=(by omega);have d:(fX L Q).length=L.length:=(by rw[j,KY]);have A:∀k,k<(Q.map OPr.f).length->(at0 (Q.map OPr.f) k).natAbs<=400000:=λk u=>by rw[fH u,Y0];exact t _ (eU _)
 have b:=λ(v:Nat) (H:v<L.length)=>DE y (by simp) A (v:=(v:Int)) (by omega) (by omega);obtain⟨D,n⟩:∃D:Nat,mC Q=(D:Int):=⟨(mC Q).toNat,by omega⟩;have g:D<L.length:=(by omega);have i:mM (fX L Q)<L.length:=(by have:=cv (fX L Q) ((fX L Q).length-1);unfold mM;omega);have m:at0 (fX L Q) D≠1000000000000:=(by rw[j,xki g,n];unfold uB;rw[aF rfl];omega);have a:at0 (fX L Q) (mM (fX L Q))≠1000000000000:=xgq _ D (by omega) m;refine⟨d,l,?_⟩;have e:at0 (fX L Q) (mM (fX L Q))=uB L (Q.map OPr.q) (Q.map OPr.f) (D:Int) (mM (fX L Q):Nat):=by
  generalize mM (fX L Q)=v at *
  rw[j,xki i,n]
 rw[e]at a ⊢;have J:=b D g;have K:=b _ i;unfold uB at a ⊢;split at a
 .rename_i w;rw[aF w];omega
 .exact absurd rfl a
end Go.Ix
namespace Go.Ix
open Go.Proofs
variable{A pa ea sc pr lv cf:AV}{E O:Int}{J:List Pn}
def selN(q:Nat->Bool)(J:List Pn)(k:Nat):List ByteArray:=((List.range k).filter q).map λj=>((J[j]?).map Pn.nm).getD ⟨#[]⟩
def ZW{q:Nat->Bool}{k:Nat}(a:k<J.length)(h:q k=true):selN q J (k+1)=selN q J k++[J[k].nm]:=by unfold selN;rw[rU,xQ,nN];simp[h,a]
def uE{q:Nat->Bool}{k:Nat}(h:q k=false):selN q J (k+1)=selN q J k:=by unfold selN;rw[rU,xQ,nN];simp[h]
def CN(q:Nat->Bool)(J:List Pn)(k:Nat):(selN q J k).length<=k:=by unfold selN;rw[qK];have:=NZ q (List.range k);simpa using this
def mO(b:Bd)(J:List Pn)(j:Nat):Bool:=((J[j]?).map (uX b)).getD false
def xhm{b:Bd}{j:Nat}(h:j<J.length):mO b J j=uX b J[j]:=by unfold mO;rw[gE h];rfl
def GL(L:List Scene)(S:List OPr)(j:Nat):Int:=iG L (ofPt j S)
def fg(L:List Scene)(S:List OPr)(O E a:Int)(j:Nat):Int:=H2 (at0 (fX L (ofPt j S)) (mM (fX L (ofPt j S)))) O E a
def sureQ(L:List Scene)(S:List OPr)(O E:Int)(b:Bd)(J:List Pn)(j:Nat):Bool:=mO b J j&&(decide (GL L S j=2)&&decide (fg L S O E b.th j=2))
def pW(L:List Scene)(S:List OPr)(O E:Int)(b:Bd)(J:List Pn)(j:Nat):Bool:=mO b J j&&(decide (GL L S j=2)&&decide (fg L S O E b.th j=1))
def openQ(L:List Scene)(S:List OPr)(b:Bd)(J:List Pn)(j:Nat):Bool:=mO b J j&&decide (GL L S j=1)
def blindQ(L:List Scene)(S:List OPr)(b:Bd)(J:List Pn)(j:Nat):Bool:=mO b J j&&decide (GL L S j=0)
def cntJ(b:Bd)(J:List Pn)(k:Nat):Nat:=((List.range k).filter (mO b J)).length
def xjf{b:Bd}{k:Nat}:cntJ b J (k+1)=cntJ b J k+(if mO b J k=true then 1 else 0):=by unfold cntJ;rw[rU,xQ,eT];by_cases c:mO b J k=true<;>simp[c]
def xjg(b:Bd)(J:List Pn)(k:Nat):cntJ b J k<=k:=by unfold cntJ;have:=NZ (mO b J) (List.range k);simpa using this
def mayN(L:List Scene)(S:List OPr)(O E:Int)(b:Bd)(J:List Pn)(k:Nat):Bool:=(List.range k).any (pW L S O E b J)
def ME{L:List Scene}{S:List OPr}{b:Bd}{k:Nat}:mayN L S O E b J (k+1)=(mayN L S O E b J k||pW L S O E b J k):=by unfold mayN;rw[rU,List.any_append];simp
abbrev okW(t:Nat)(id:Id):Prop:=1<=id.1/\id.2.2=t
def vO:prog.underlying iQ=some (.slice bN):=by kernel_rfl
structure AI (A pa ea sc pr lv cf:AV) (wv mg:Int) (L:List Scene) (S:List OPr) (b:Bd) (pl:List Pn) (i:Int) (k:Nat) (m:Mem):Prop where
 g2:m.get (0,0,2)=some (.row [.aH (SC wv mg A pa ea),sc,pr,lv,cf] 0 false)
 g3:m.get (0,1,3)=some (.row [I i] 0 false)
 g4:m.get (0,2,4)=some (.row [I 0,nilS,nilS,nilS] 0 false)
 g5:∃s o l,m.get (0,3,5)=some (.row [I 0,s,o,l] 0 false)/\Gk 1 tE (okW 57) m s (selN (sureQ L S mg wv b pl) pl k)/\Gk 1 tE (okW 78) m o (selN (openQ L S b pl) pl k)/\Gk 1 tE (okW 70) m l (selN (blindQ L S b pl) pl k)
 g6:m.get (0,4,6)=some (.row [I (cntJ b pl k:Nat)] 0 false)
 g7:m.get (0,5,7)=some (.row [B (mayN L S mg wv b pl k)] 0 false)
 nx:1<=m.next
def AI.fr{L:List Scene}{S:List OPr}{b:Bd}{i:Int}{k:Nat}{m e:Mem}(h:AI A pa ea sc pr lv cf E O L S b J i k m)(D:m.next<=e.next)(a:∀j:Id,j.1=0->e.get j=m.get j)(f:∀j:Id,j.2.2=57\/j.2.2=78\/j.2.2=70->e.get j=m.get j):AI A pa ea sc pr lv cf E O L S b J i k e:=by obtain⟨g,n,p,⟨s,o,l,r,t,u,x⟩,y,C,F⟩:=h;exact⟨by rw[a _ rfl];exact g,by rw[a _ rfl];exact n,by rw[a _ rfl];exact p,⟨s,o,l,by rw[a _ rfl];exact r,t.frame λj d=>f _ (.inl d.2),u.frame λj d=>f _ (.inr (.inl d.2)),x.frame λj d=>f _ (.inr (.inr d.2))⟩,by rw[a _ rfl];exact y,by rw[a _ rfl];exact C,by omega⟩
def AI.no{L:List Scene}{S:List OPr}{b:Bd}{i:Int}{k:Nat}{m:Mem}(h:AI A pa ea sc pr lv cf E O L S b J i k m)(a:mO b J k=false):AI A pa ea sc pr lv cf E O L S b J i (k+1) m:=by
 obtain⟨d,e,f,⟨s,o,l,g,j,n,p⟩,r,t,u⟩:=h;refine⟨d,e,f,⟨s,o,l,g,?_,?_,?_⟩,?_,?_,u⟩
 .rw[uE (by unfold sureQ;rw[a];rfl)];exact j
 .rw[uE (by unfold openQ;rw[a];rfl)];exact n
 .rw[uE (by unfold blindQ;rw[a];rfl)];exact p
 .rw[xjf,aB (by rw[a];decide)];exact r
 .rw[ME,show pW L S O E b J k=false by unfold pW;rw[a];rfl,tw];exact t
theorem fi(x:ByteArray)(a:Id->Option Ob):elems a 1 (.aN [T x] 1 true)=some (tE x,1):=rfl
def AI.yes(d:Nat){W:List Bd}{L:List Scene}{S:List OPr}(w:Sl Bd.c A W)(C:Sl Pn.c pa J)(Z:Sl Scene.c sc L)(hp:Sl OPr.c pr S)(F:aP lv=true/\aP cf=true)(ho:lv.one=true/\cf.one=true)(hcl:fO lv=true/\fO cf=true)(hpl:J.length<=1000)(hS:S.length<=1000)(hm:0<=O/\O<=2048)(hw:1<=E/\E<=10000)(hL:L.length<=12/\L.length<=d+8)(hQ:∀j:Nat,(ofPt j S).length<=19)(Q:∀p∈S,p.f.natAbs<=400000){i:Nat}(hi:i<W.length)(hth:0<=W[i].th/\W[i].th<=1000000)(hs0:FHs)(k:Nat)(hk:k<J.length)(m:Mem)(hb:uX W[i] J[k]=true)(hI:AI A pa ea sc pr lv cf E O L S W[i] J i k m) :
    ∃X,IZ (aG (d+15)) hs0 m.next (.ptr (0,0,2) 0 0) (.ptr (0,1,3) 0 0) (.ptr (0,3,5) 0 0) (.ptr (0,4,6) 0 0) (.ptr (0,5,7) 0 0) (I (k:Int)) ⟨m.hp,m.next+1⟩ 0=some X/\AI A pa ea sc pr lv cf E O L S W[i] J i (k+1) X:=by
 have M:mO W[i] J k=true:=(by rw[xhm hk];exact hb);obtain⟨m1,P⟩:∃m1:Mem,m1=⟨m.hp,m.next+1⟩:=⟨_,rfl⟩;have hI1:AI A pa ea sc pr lv cf E O L S W[i] J i k m1:=hI.fr (by rw[P];exact tJ _) (λj _=>by rw[P];rfl) (λj _=>by rw[P];rfl);have hnx:=hI.nx;rw[<-P];generalize hu:m.next=u at *
 have n1:m1.next=u+1:=(by rw[P]);obtain⟨a2,a3,a4,⟨s,o,l,a5,e1,e2,e3⟩,a6,a7,nx⟩:=hI1;have hcl1:=xjg W[i] J k;have hcw:cJ (((cntJ W[i] J k:Nat):Int)+1)=((cntJ W[i] J (k+1):Nat):Int):=(by rw[xjf,aF M,bU];omega);generalize hm2:m1.set (0,4,6) (.row [I ((cntJ W[i] J (k+1):Nat):Int)] 0 false)=m2;have f2:∀j:Id,j≠(0,4,6)->m2.get j=m1.get j:=λj e=>by rw[<-hm2,Mem.bG,aB e]
 have b2:m2.get (0,0,2)=some (.row [.aH (SC E O A pa ea),sc,pr,lv,cf] 0 false):=(by rw[f2 _ (by simp)];exact a2);have ixp:=C.ix Pn.len hk;have ldn:∀m,aA false 1 (.aH ((J.drop k).flatMap Pn.c)) m=some (T J[k].nm):=λm=>by rw[gV hk,dK];rfl
 have q1:cD (.aH (SC E O A pa ea))=some (.aH (SC E O A pa ea)):=rfl;have q2:aE 3 (.aH (SC E O A pa ea))=some (.aH [pa,ea]):=rfl;have q3:∀m,aA false 1 (.aH [pa,ea]) m=some pa:=λ_=>rfl
 have q4:aE 0 (.aH ((J.drop k).flatMap Pn.c))=some (.aH ((J.drop k).flatMap Pn.c)):=rfl;have l5:∀m:Mem,m.get (0,0,2)=some (.row [.aH (SC E O A pa ea),sc,pr,lv,cf] 0 false)->aA true 5 (.ptr (0,0,2) 0 0) m=some (FB E O A pa ea sc pr lv cf):=λm h=>by rw[jJ,h];rfl
 have lp0:∀m:Mem,m.get (0,0,2)=some (.row [.aH (SC E O A pa ea),sc,pr,lv,cf] 0 false)->aA false 1 (.ptr (0,0,2) 0 0) m=some (.aH (SC E O A pa ea)):=λm h=>by rw[jJ,h];rfl
 have hstl:[FB E O A pa ea sc pr lv cf,I (k:Int)].all bD=true:=(by show(([AV.aH (SC E O A pa ea),sc,pr,lv,cf].all aP)&&true)=true;simp[Z.aP,hp.aP,F.1,F.2];rfl);obtain⟨v,⟨x,y,rfl,hx,hy⟩,hlk⟩:=rS hstl (yeo d (A:=A) (pa:=pa) (ea:=ea) (E:=E) (O:=O) Z hp ho F hS (k:Int) ⟨hL.1,hL.2,hQ k⟩) m2;have hb1:([I (iG L (ofPt k S)),x,y]:List AV).all AV.one=true:=(by simp[hx.one,hy.one]);unfold IZ ze;have l6:aA false 1 (.ptr (0,4,6) 0 0) m1=some (I ((cntJ W[i] J k:Nat):Int)):=(by rw[jJ,a6];rfl);have s6:∀{R:Type} (K:Mem->Option R),bA 1 (.ptr (0,4,6) 0 0) (I ((cntJ W[i] J (k+1):Nat):Int)) m1 K=K m2:=λK=>by rw[rA,a6,<-hm2];rfl
 have p0:aE 0 (.ptr (0,0,2) 0 0)=some (.ptr (0,0,2) 0 0):=rfl;have S10:∀(m:Mem) (sf:Nat) {R:Type} (K:Mem->Option R),bA 3 (.ptr (u,sf,10) 0 0) (.agg [I (iG L (ofPt k S)),x,y]) (m.new (u,sf,10) (.row xW 0 false)) K=K ((m.new (u,sf,10) (.row xW 0 false)).set (u,sf,10) (.row [I (iG L (ofPt k S)),x,y] 0 false)):=λm sf R K=>by rw[rA,Mem.lF,xa0,CD];simp[hb1]
 simp only[l6,aC,dS,hcw,s6,p0,lp0 _ b2,q1,q2,q3,ixp,q4,ldn,l5 _ b2,hlk,lQ,S10];generalize hm3:Mem.set _ _ _=m3;have f3:∀j:Id,j.2.2≠10->m3.get j=m2.get j:=λj e=>by rw[<-hm3,Mem.bG,aB (by rintro rfl;simp at e),Mem.dI,aB (by rintro rfl;simp at e)]
 have g10:m3.get (u,0+1+16,10)=some (.row [I (iG L (ofPt k S)),x,y] 0 false):=(by rw[<-hm3];simp);have n3:m3.next=u+1:=(by rw[<-hm3];show m2.next=u+1;rw[<-hm2];exact n1);have c2:m3.get (0,0,2)=some (.row [.aH (SC E O A pa ea),sc,pr,lv,cf] 0 false):=(by rw[f3 _ (by simp)];exact b2);have c3:m3.get (0,1,3)=some (.row [I (i:Int)] 0 false):=(by rw[f3 _ (by simp),f2 _ (by simp)];exact a3);have c4:m3.get (0,2,4)=some (.row [I 0,nilS,nilS,nilS] 0 false):=(by rw[f3 _ (by simp),f2 _ (by simp)];exact a4);have c5:m3.get (0,3,5)=some (.row [I 0,s,o,l] 0 false):=(by rw[f3 _ (by simp),f2 _ (by simp)];exact a5);have c6:m3.get (0,4,6)=some (.row [I ((cntJ W[i] J (k+1):Nat):Int)] 0 false):=(by rw[f3 _ (by simp),<-hm2];simp);have c7:m3.get (0,5,7)=some (.row [B (mayN L S O E W[i] J k)] 0 false):=(by rw[f3 _ (by simp),f2 _ (by simp)];exact a7);have d1:Gk 1 tE (okW 57) m3 s (selN (sureQ L S O E W[i] J) J k):=e1.frame λj e=>by rw[f3 _ (by have:=e.2;omega),f2 _ (by rintro rfl;simp[okW]at e)]
 have d2:Gk 1 tE (okW 78) m3 o (selN (openQ L S W[i] J) J k):=e2.frame λj e=>by rw[f3 _ (by have:=e.2;omega),f2 _ (by rintro rfl;simp[okW]at e)]
 have d3:Gk 1 tE (okW 70) m3 l (selN (blindQ L S W[i] J) J k):=e3.frame λj e=>by rw[f3 _ (by have:=e.2;omega),f2 _ (by rintro rfl;simp[okW]at e)]
 have D:GL L S k=iG L (ofPt k S):=rfl;have l10:aA false 1 (.ptr (u,0+1+16,10) 0 0) m3=some (I (iG L (ofPt k S))):=(by rw[jJ,g10];rfl);have p10:aE 0 (.ptr (u,0+1+16,10) 0 0)=some (.ptr (u,0+1+16,10) 0 0):=rfl;unfold zf yr yu yv;simp only[p10,aC,l10,iD];have N:∀X:Mem,X.get (0,4,6)=m3.get (0,4,6)->X.get (0,4,6)=some (.row [I ((cntJ W[i] J (k+1):Nat):Int)] 0 false):=λX h=>h.trans c6
 have hsl:(selN (sureQ L S O E W[i] J) J k).length<=1000:=iW (CN _ _ _) (by omega);have hol:(selN (openQ L S W[i] J) J k).length<=1000:=iW (CN _ _ _) (by omega);have hbl:(selN (blindQ L S W[i] J) J k).length<=1000:=iW (CN _ _ _) (by omega);have hr:∀n:Nat,n<=1000->cF (n+1) 16:=λn h=>by unfold cF;omega
 have hcase:iG L (ofPt k S)=0\/iG L (ofPt k S)=1\/iG L (ofPt k S)=2:=(by unfold iG;split;exact .inl rfl;split;exact .inr (.inr rfl);exact .inr (.inl rfl));rcases hcase with K0|K1|K2
 ·
  have r1:sureQ L S O E W[i] J k=false:=(by unfold sureQ;rw[D,K0];simp);have r2:openQ L S W[i] J k=false:=(by unfold openQ;rw[D,K0];simp);have r3:blindQ L S W[i] J k=true:=(by unfold blindQ;rw[D,K0,M];rfl);have r4:pW L S O E W[i] J k=false:=(by unfold pW;rw[D,K0];simp);obtain⟨l',g,A1,A2,A3,A4,A5,A6⟩:=d3.app (bytes:=16) (id0:=(u,0+1+20+2+4,70)) M8 (by omega) ⟨hnx,rfl⟩ (hr _ hbl) J[k].nm;have g5:g.get (0,3,5)=some (.row [I 0,s,o,l] 0 false):=(by rw[A6 _ (by simp[okW])];exact c5);have st:pL 1 0 3 l' (some (.row [I 0,s,o,l] 0 false))=some (.row [I 0,s,o,l'] 0 false):=(by simp[A3,A4]);have lb:aA false 1 (.ptr (0,3,5) 0 3) m3=some l:=(by rw[jJ,c5];rfl);have p3:aE 3 (.ptr (0,3,5) 0 0)=some (.ptr (0,3,5) 0 3):=rfl;unfold yz;simp only[K0,bB,aS,p3,aC,lb,cg,fi,A1,rA,g5,st];generalize r:g.set (0,3,5) _=m5;have t:∀j:Id,j≠(0,3,5)->¬okW 70 j->m5.get j=m3.get j:=λj w C=>by rw[<-r,Mem.bG,aB w,A6 _ C]
  refine⟨m5,rfl,by rw[t _ (by simp) (by simp[okW])];exact c2,by rw[t _ (by simp) (by simp[okW])];exact c3,by rw[t _ (by simp) (by simp[okW])];exact c4,⟨s,o,l',by rw[<-r];simp,?_,?_,?_⟩,N m5 (t _ (by simp) (by simp[okW])),by rw[t _ (by simp) (by simp[okW]),ME,r4,tw];exact c7,by rw[<-r];show 1<=g.next;rw[A5,n3];omega⟩
  .rw[uE r1];exact d1.frame λj e=>t _ (by rintro rfl;simp[okW]at e) (by intro h;have w:=h.2;have C:=e.2;omega)
  .rw[uE r2];exact d2.frame λj e=>t _ (by rintro rfl;simp[okW]at e) (by intro h;have w:=h.2;have C:=e.2;omega)
  .rw[ZW hk r3];exact A2.frame λj e=>by rw[<-r,Mem.bG,aB (by rintro rfl;simp[okW]at e)]
 ·
  have r1:sureQ L S O E W[i] J k=false:=(by unfold sureQ;rw[D,K1];simp);have r2:openQ L S W[i] J k=true:=(by unfold openQ;rw[D,K1,M];rfl);have r3:blindQ L S W[i] J k=false:=(by unfold blindQ;rw[D,K1];simp);have r4:pW L S O E W[i] J k=false:=(by unfold pW;rw[D,K1];simp);obtain⟨o',g,A1,A2,A3,A4,A5,A6⟩:=d2.app (bytes:=16) (id0:=(u,0+1+20+2+2+4,78)) M8 (by omega) ⟨hnx,rfl⟩ (hr _ hol) J[k].nm;have g5:g.get (0,3,5)=some (.row [I 0,s,o,l] 0 false):=(by rw[A6 _ (by simp[okW])];exact c5);have st:pL 1 0 2 o' (some (.row [I 0,s,o,l] 0 false))=some (.row [I 0,s,o',l] 0 false):=(by simp[A3,A4]);have lb:aA false 1 (.ptr (0,3,5) 0 2) m3=some o:=(by rw[jJ,c5];rfl);have p3:aE 2 (.ptr (0,3,5) 0 0)=some (.ptr (0,3,5) 0 2):=rfl;unfold yy;simp only[K1,show decide ((1:Int)=0)=false from rfl,bB,aS,aT,p3,aC,lb,cg,fi,A1,rA,g5,st];generalize r:g.set (0,3,5) _=m5;have t:∀j:Id,j≠(0,3,5)->¬okW 78 j->m5.get j=m3.get j:=λj w C=>by rw[<-r,Mem.bG,aB w,A6 _ C]
  refine⟨m5,rfl,by rw[t _ (by simp) (by simp[okW])];exact c2,by rw[t _ (by simp) (by simp[okW])];exact c3,by rw[t _ (by simp) (by simp[okW])];exact c4,⟨s,o',l,by rw[<-r];simp,?_,?_,?_⟩,N m5 (t _ (by simp) (by simp[okW])),by rw[t _ (by simp) (by simp[okW]),ME,r4,tw];exact c7,by rw[<-r];show 1<=g.next;rw[A5,n3];omega⟩
  .rw[uE r1];exact d1.frame λj e=>t _ (by rintro rfl;simp[okW]at e) (by intro h;have w:=h.2;have C:=e.2;omega)
  .rw[ZW hk r2];exact A2.frame λj e=>by rw[<-r,Mem.bG,aB (by rintro rfl;simp[okW]at e)]
  .rw[uE r3];exact d3.frame λj e=>t _ (by rintro rfl;simp[okW]at e) (by intro h;have w:=h.2;have C:=e.2;omega)
 ·
  have r2:openQ L S W[i] J k=false:=(by unfold openQ;rw[D,K2];simp);have r3:blindQ L S W[i] J k=false:=(by unfold blindQ;rw[D,K2];simp);obtain⟨y1,y2,y3,y4⟩:=x2j K2 hL.1 λp hp'=>Q p (jE.mp hp').1
  have hlt:mM (fX L (ofPt k S))<(fX L (ofPt k S)).length:=(by have:=cv (fX L (ofPt k S)) ((fX L (ofPt k S)).length-1);unfold mM;omega);have wl:=λm=>xoe (d+14) (K:=iG L (ofPt k S)) hx (y:=y) ⟨hy.one,hy.aP⟩ (by rw[y1];omega) m
  have wm:=λm=>xoa (d+14) (A:=A) (pa:=pa) (ea:=ea) (E:=E) (O:=O) (sc:=sc) (pr:=pr) (lv:=lv) (cf:=cf) (K:=iG L (ofPt k S)) hx (y:=y) ⟨hy.one,hy.aP⟩ (by simp[Z.one,hp.one,ho.1,ho.2]) (by simp[Z.aP,hp.aP,F.1,F.2]) hlt m
  have we:=λm=>xpl (d+11) (s:=at0 (fX L (ofPt k S)) (mM (fX L (ofPt k S)))) ⟨y3,y4⟩ hm hw hth m
  have ixb:=w.ix Bd.len hi;have x1:aE 2 (.aH ((W.drop i).flatMap Bd.c))=some (.aH (((W.drop i).flatMap Bd.c).drop 2)):=rfl;have x2:∀m,aA false 1 (.aH (((W.drop i).flatMap Bd.c).drop 2)) m=some (I W[i].th):=λm=>by rw[gV hi,dK];rfl
  have q5:aE 2 (.aH (SC E O A pa ea))=some (.aH [A,pa,ea]):=rfl;have q6:∀m,aA false 1 (.aH [A,pa,ea]) m=some A:=λ_=>rfl
  have l3:aA false 1 (.ptr (0,1,3) 0 0) m3=some (I (i:Int)):=(by rw[jJ,c3];rfl);have l33:aA true 3 (.ptr (u,0+1+16,10) 0 0) m3=some (.agg [I (iG L (ofPt k S)),x,y]):=(by rw[jJ,g10];rfl);have hM1:cY 0 [.agg [I (iG L (ofPt k S)),x,y]]=2:=(by rw[ce,show([.agg [I (iG L (ofPt k S)),x,y]]:List AV).all clean=true by simp[clean,hx.fO,hy.fO]];rfl);have hM2:∀n:Int,cY 0 [FB E O A pa ea sc pr lv cf,.agg [I (iG L (ofPt k S)),x,y],I n]=2:=λn=>by rw[ce,show([FB E O A pa ea sc pr lv cf,.agg [I (iG L (ofPt k S)),x,y],I n]:List AV).all clean=true by simp[clean,hx.fO,hy.fO,Z.fO,hp.fO,hcl.1,hcl.2];rfl];rfl
  unfold yw;simp only[K2,show decide ((2:Int)=0)=false from rfl,show decide ((2:Int)=1)=false from rfl,aT];rw[K2]at l33 wl wm hM1 hM2;simp only[l5 _ c2,l33,aC,wl,wm,p0,lp0 _ c2,q1,q5,q6,l3,ixb,x1,x2,we,lY,kG,kH,hM1,hM2];have gP:∀(id:Id) (H n:Nat),id.1<n->dJ (some n) (tR (.ptr id 0 H)) 2=true:=λid H n h=>by simp[dJ,tR,Nat.blt,Nat.ble_eq];omega
  have gN:∀(id:Id) (H:Nat),dJ none (tR (.ptr id 0 H)) 2=true:=λid H=>rfl
  have gL:∀(l:List AV) (n:Nat),dJ (some n) (tR (.aH l)) 2=true:=λl n=>rfl
  have hn0:∀a b:Nat,((0,a,b):Id).1<m3.next:=λa b=>by show 0<m3.next;omega
  simp only[gP _ _ _ (hn0 _ _),gN,gL,show Nat.ble 1 2=true from rfl,iL,bC];have hE:fg L S O E W[i].th k=H2 (at0 (fX L (ofPt k S)) (mM (fX L (ofPt k S)))) O E W[i].th:=rfl;generalize hex:H2 (at0 (fX L (ofPt k S)) (mM (fX L (ofPt k S)))) O E W[i].th=ex at *
  have r1:sureQ L S O E W[i] J k=decide (ex=2):=(by unfold sureQ;rw[D,K2,hE,M];simp);have r4:pW L S O E W[i] J k=decide (ex=1):=(by unfold pW;rw[D,K2,hE,M];simp);have fin:∀(g:Mem) (Y:Nat) (s':AV),(∀j:Id,j≠(0,3,5)->¬okW 57 j->g.get j=m3.get j)->g.next=m3.next->g.get (0,3,5)=some (.row [I 0,s',o,l] 0 false)->Gk 1 tE (okW 57) g s' (selN (sureQ L S O E W[i] J) J (k+1)) ->
   ∃X,IY (aG (d+15)) hs0 u (.ptr (0,5,7) 0 0) (I ex) g Y=some X/\AI A pa ea sc pr lv cf E O L S W[i] J i (k+1) X:=λg Y s' Q hn g5 hG=>by
   have g7:g.get (0,5,7)=some (.row [B (mayN L S O E W[i] J k)] 0 false):=(by rw[Q _ (by simp) (by simp[okW])];exact c7);have hval:mayN L S O E W[i] J (k+1)=(mayN L S O E W[i] J k||decide (ex=1)):=(by rw[ME,r4]);refine⟨g.set (0,5,7) (.row [B (mayN L S O E W[i] J (k+1))] 0 false),?_,?_⟩
   .unfold IY;rw[hval];have l7:aA false 1 (.ptr (0,5,7) 0 0) g=some (B (mayN L S O E W[i] J k)):=(by rw[jJ,g7];rfl);clear hval;generalize mayN L S O E W[i] J k=bb at g7 l7 ⊢;cases bb<;>simp[l7,g7]
   .have h5:∀j:Id,j≠(0,5,7)->(g.set (0,5,7) (.row [B (mayN L S O E W[i] J (k+1))] 0 false)).get j=g.get j:=λj e=>by rw[Mem.bG,aB e]
    refine⟨by rw[h5 _ (by simp),Q _ (by simp) (by simp[okW])];exact c2,by rw[h5 _ (by simp),Q _ (by simp) (by simp[okW])];exact c3,by rw[h5 _ (by simp),Q _ (by simp) (by simp[okW])];exact c4,⟨s',o,l,by rw[h5 _ (by simp)];exact g5,?_,?_,?_⟩,by rw[h5 _ (by simp)];exact N g (Q _ (by simp) (by simp[okW])),by simp,by show 1<=g.next;rw[hn,n3];omega⟩
    .exact hG.frame λj e=>h5 _ (by rintro rfl;simp[okW]at e)
    .rw[uE r2];exact d2.frame λj e=>by rw[h5 _ (by rintro rfl;simp[okW]at e),Q _ (by rintro rfl;simp[okW]at e) (by intro h;have w:=h.2;have C:=e.2;omega)]
    .rw[uE r3];exact d3.frame λj e=>by rw[h5 _ (by rintro rfl;simp[okW]at e),Q _ (by rintro rfl;simp[okW]at e) (by intro h;have w:=h.2;have C:=e.2;omega)]
  unfold yx;by_cases c9:ex=2
  .obtain⟨s',g,A1,A2,A3,A4,A5,A6⟩:=d1.app (bytes:=16) (id0:=(u,0+1+20+2+2+20+6,57)) M8 (by omega) ⟨hnx,rfl⟩ (hr _ hsl) J[k].nm;have g5:g.get (0,3,5)=some (.row [I 0,s,o,l] 0 false):=(by rw[A6 _ (by simp[okW])];exact c5);have st:pL 1 0 1 s' (some (.row [I 0,s,o,l] 0 false))=some (.row [I 0,s',o,l] 0 false):=(by simp[A3,A4]);have lb:aA false 1 (.ptr (0,3,5) 0 1) m3=some s:=(by rw[jJ,c5];rfl);have p3:aE 1 (.ptr (0,3,5) 0 0)=some (.ptr (0,3,5) 0 1):=rfl;simp only[iD,c9,bB,aC,aS,p3,lb,cg,fi,A1,rA,g5,st];rw[<-c9];refine fin _ _ s' (λj w C=>by rw[Mem.bG,aB w,A6 _ C]) A5 (by simp) ?_;rw[ZW hk (by rw[r1,c9];rfl)];exact A2.frame λj e=>by rw[Mem.bG,aB (by rintro rfl;simp[okW]at e)]
  .simp only[iD,c9,bO,aC,aT];exact fin m3 _ s (λ_ _ _=>rfl) rfl c5 (by rw[uE (by rw[r1];simp[c9])];exact d1)
end Go.Ix
namespace Go.Ix
open Go.Proofs
variable{A pa ea sc pr lv cf:AV}{E O:Int}{J:List Pn}
def nI(L:List Scene)(S:List OPr)(O E:Int)(b:Bd)(J:List Pn):Int:=
 if 0<(selN (sureQ L S O E b J) J J.length).length then 2
 else if mayN L S O E b J J.length=true\/cntJ b J J.length=0\/0<(selN (blindQ L S b J) J J.length).length+(selN (openQ L S b J) J J.length).length then 1 else 0
def YH(L:List Scene)(S:List OPr)(O E:Int)(b:Bd)(J:List Pn)(v:AV):Prop:=
 ∃s o l,v=.agg [I (nI L S O E b J),s,o,l]/\Sl tE s (selN (sureQ L S O E b J) J J.length)/\Sl tE o (selN (openQ L S b J) J J.length)/\Sl tE l (selN (blindQ L S b J) J J.length)
def xne:YP=[I 0,nilS,nilS,nilS]:=by kernel_rfl
def ycy(d:Nat)(i:Int)(l:[sc,pr,lv,cf].all AV.one=true)(b:[sc,pr,lv,cf].all aP=true)(m:Mem) :
    aI (aG (d+1)) T3 [FB E O A pa ea sc pr lv cf,I i] m=some (.clo zA [.aH [.aH (SC E O A pa ea),sc,pr,lv,cf],.aH [I i]],m):=by
 have g:(FB E O A pa ea sc pr lv cf).cells.all AV.one=true:=(by show((AV.aH (SC E O A pa ea)).one&&[sc,pr,lv,cf].all AV.one)=true;rw[l];rfl);have e:[FB E O A pa ea sc pr lv cf,I i].all bD=true:=(by show(([AV.aH (SC E O A pa ea),sc,pr,lv,cf].all aP)&&true)=true;rw[dY,b];rfl);have h:∃M:Mem,aG (d+1) [] T3 [FB E O A pa ea sc pr lv cf,I i] mem0=some (.clo zA [.ptr (0,0,2) 0 0,.ptr (0,1,3) 0 0],M)/\M.get (0,0,2)=some (.row [.aH (SC E O A pa ea),sc,pr,lv,cf] 0 false)/\M.get (0,1,3)=some (.row [I i] 0 false):=(by rw[ybn];unfold qz aU VU;have j:(I i).cells.all AV.one=true:=rfl;simp only[mem0,iE,g,j,bC];exact⟨_,rfl,by rw[Mem.zL (by simp),Mem.lF];rfl,by rw[Mem.lF];rfl⟩);obtain⟨M,p,r,t⟩:=h;refine H7 e p ?_
 have n:Go.Ix.frz M.get 5 (.ptr (0,0,2) 0 0)=some (.aH [.aH (SC E O A pa ea),sc,pr,lv,cf]):=rQ r (sP λa f=>by
  rcases dV.mp f with rfl|f
  .rfl
  .exact uZ M.get 3 (dG.mp b a f))
 have o:Go.Ix.frz M.get 5 (.ptr (0,1,3) 0 0)=some (.aH [I i]):=rQ t rfl;show([AV.ptr (0,0,2) 0 0,.ptr (0,1,3) 0 0].mapM (Go.Ix.frz M.get 5)).map (AV.clo zA)=_;simp only[eO,gS,n,o];rfl
def yeq(d:Nat){W:List Bd}{L:List Scene}{S:List OPr}(h1:Sl Bd.c A W)(h2:Sl Pn.c pa J)(Z:Sl Scene.c sc L)(hp:Sl OPr.c pr S)(w:aP lv=true/\aP cf=true)(N:lv.one=true/\cf.one=true)(P:fO lv=true/\fO cf=true)(Q:J.length<=1000)(hS:S.length<=1000)(hm:0<=O/\O<=2048)(hw:1<=E/\E<=10000)(hL:L.length<=12/\L.length<=d+8)(hQ:∀j:Nat,(ofPt j S).length<=19)(hf:∀p∈S,p.f.natAbs<=400000){i:Nat}(hi:i<W.length)(hth:0<=W[i].th/\W[i].th<=1000000)(hz:polyE W[i].cs=0)(hp2:∀p∈J,isPl p.at_=true) :
    RetF (YH L S O E W[i] J) (aG (d+16) [] D9 [FB E O A pa ea sc pr lv cf,I (i:Int)] mem0):=by
 rw[ybr];unfold ri aU VZ;have ho1:(FB E O A pa ea sc pr lv cf).cells.all AV.one=true:=(by show((AV.aH (SC E O A pa ea)).one&&[sc,pr,lv,cf].all AV.one)=true;simp[Z.one,hp.one,N.1,N.2];rfl);have ho2:(I (i:Int)).cells.all AV.one=true:=rfl;simp only[mem0,iE,ho1,ho2,bC];generalize F:Mem.new (Mem.new _ _ _) _ _=m1;have g2:m1.get (0,0,2)=some (.row [.aH (SC E O A pa ea),sc,pr,lv,cf] 0 false):=(by rw[<-F];simp);have g3:m1.get (0,1,3)=some (.row [I (i:Int)] 0 false):=(by rw[<-F];simp);have n1:m1.next=1:=(by rw[<-F];rfl);simp[xne,nQ,JN];generalize b:Mem.set _ _ _=m2;have k2:m2.get (0,0,2)=some (.row [.aH (SC E O A pa ea),sc,pr,lv,cf] 0 false):=(by rw[<-b];simp[g2]);have k3:m2.get (0,1,3)=some (.row [I (i:Int)] 0 false):=(by rw[<-b];simp[g3]);have k4:m2.get (0,2,4)=some (.row [I 0,nilS,nilS,nilS] 0 false):=(by rw[<-b];simp);have k5:m2.get (0,3,5)=some (.row [I 0,nilS,nilS,nilS] 0 false):=(by rw[<-b];simp);have k6:m2.get (0,4,6)=some (.row [I 0] 0 false):=(by rw[<-b];simp);have k7:m2.get (0,5,7)=some (.row [B false] 0 false):=(by rw[<-b];simp);have n2:m2.next=1:=(by rw[<-b];exact n1);have hcr:[sc,pr,lv,cf].all AV.one=true:=(by simp[Z.one,hp.one,N.1,N.2]);have hcs:[sc,pr,lv,cf].all aP=true:=(by simp[Z.aP,hp.aP,w.1,w.2]);have l5:aA true 5 (.ptr (0,0,2) 0 0) m2=some (FB E O A pa ea sc pr lv cf):=(by rw[jJ,k2];rfl);have l3:aA false 1 (.ptr (0,1,3) 0 0) m2=some (I (i:Int)):=(by rw[jJ,k3];rfl);unfold za;simp only[l5,l3,aC,ycy (d+14) (i:Int) hcr hcs];unfold zd;simp only[oV];obtain⟨H,hH⟩:∃H:List AV->Mem->Option Mem,H=λu m=>bif Nat.beq u.length 1&&true then IZ (aG (d+15)) [] m.next (.ptr (0,0,2) 0 0) (.ptr (0,1,3) 0 0) (.ptr (0,3,5) 0 0) (.ptr (0,4,6) 0 0) (.ptr (0,5,7) 0 0) (u.getD 0 U) ⟨m.hp,m.next+1⟩ 0 else none:=⟨_,rfl⟩
 rw[<-hH];have hI0:AI A pa ea sc pr lv cf E O L S W[i] J i 0 ⟨m2.hp,m2.next+1⟩:=(by refine⟨k2,k3,k4,⟨nilS,nilS,nilS,k5,Gk.nil,Gk.nil,Gk.nil⟩,k6,k7,?_⟩;show 1<=m2.next+1;omega);obtain⟨g,r6,I6⟩:=x3c (ea:=ea) (E:=E) (O:=O) (n1:=sc) (n2:=pr) (n3:=lv) (n4:=cf) (d+8) (0,8+3,0) rfl H [] m2.next h1 h2 Q hi hz hp2 (AI A pa ea sc pr lv cf E O L S W[i] J i)
  (λk m m' R X hn=>R.fr (by omega) (λj e=>X j (by rintro⟨h5,-⟩;omega)) (λj e=>X j (by rintro⟨-,h5⟩;omega)))
  (λk hk m hb R=>R.no (by rw[xhm hk];exact hb))
  (λk hk m hb R=>by
   rw[hH]
   exact AI.yes d h1 h2 Z hp w N P Q hS hm hw hL hQ hf hi hth [] k hk m hb R) J 0 NN ⟨m2.hp,m2.next+1⟩ 7 rfl (by rw[dB];omega) (xJ _) hI0
 have y:aG (d+15) [((0,8+3,0),H)] zA [.yld (0,8+3,0),.aH [.aH (SC E O A pa ea),sc,pr,lv,cf],.aH [I (i:Int)]] m2=some (.tup [],g):=by
  rw[ybm];unfold qy hJ VS;have q1:aE 0 (.aH [.aH (SC E O A pa ea),sc,pr,lv,cf])=some (.aH [.aH (SC E O A pa ea),sc,pr,lv,cf]):=rfl;have q2:∀m,aA false 1 (.aH [.aH (SC E O A pa ea),sc,pr,lv,cf]) m=some (.aH (SC E O A pa ea)):=λ_=>rfl
  have q3:cD (.aH (SC E O A pa ea))=some (.aH (SC E O A pa ea)):=rfl;have q4:aE 3 (.aH (SC E O A pa ea))=some (.aH [pa,ea]):=rfl;have q5:∀m,aA false 1 (.aH [pa,ea]) m=some pa:=λ_=>rfl
  simp only[q1,q2,q3,q4,q5,aC,h2.len vP];exact r6
 rw[y];obtain⟨-,-,j4,⟨s,o,l,j5,e1,e2,e3⟩,j6,j7,-⟩:=I6;have u1:∀{a:AV} {t:Nat} {x:List ByteArray},Gk 1 tE (okW t) g a x->a.one=true:=λh=>h.one.2
 have e1l:=e1.len vO;have e2l:=e2.len vO;have e3l:=e3.len vO;have fin:∀(n:Int) (K:Mem) (Y:Nat),n=nI L S O E W[i] J->K.get (0,3,5)=some (.row [I n,s,o,l] 0 false)->(∀j:Id,j≠(0,3,5)->K.get j=g.get j)->RetF (YH L S O E W[i] J) (K5 (aG (d+15)) [] 0 (.ptr (0,2,4) 0 0) (.ptr (0,3,5) 0 0) K Y):=λn K Y hn h5 hf7=>by
  have h4:K.get (0,2,4)=some (.row [I 0,nilS,nilS,nilS] 0 false):=(by rw[hf7 _ (by simp)];exact j4);unfold K5;simp[h5,h4,u1 e1,u1 e2,u1 e3,kY];generalize hm8:Mem.set K _ _=m8;have C:∀(t:Nat) (j:Id),okW t j->m8.get j=g.get j:=λt j e=>by rw[<-hm8,Mem.bG,aB (by rintro rfl;simp[okW]at e),hf7 _ (by rintro rfl;simp[okW]at e)]
  obtain⟨s',z1,y1⟩:=(e1.frame (m':=m8) λj e=>C _ j e).frz (k:=3) M8 ZN;obtain⟨o',z2,y2⟩:=(e2.frame (m':=m8) λj e=>C _ j e).frz (k:=3) M8 ZN;obtain⟨l',z3,y3⟩:=(e3.frame (m':=m8) λj e=>C _ j e).frz (k:=3) M8 ZN;exact RetF.mk (xia (k:=4) rfl y1 y2 y3) ⟨s',o',l',by rw[hn],z1,z2,z3⟩
 have P:=xjg W[i] J J.length;have hb1:=CN (blindQ L S W[i] J) J J.length;have hb2:=CN (openQ L S W[i] J) J J.length;have hset:∀n:Int,pL 1 0 0 (I n) (some (.row [I 0,s,o,l] 0 false))=some (.row [I n,s,o,l] 0 false):=λn=>by simp
 unfold zg;have l51:aA false 1 (.ptr (0,3,5) 0 1) g=some s:=(by rw[jJ,j5];rfl);have l52:aA false 1 (.ptr (0,3,5) 0 2) g=some o:=(by rw[jJ,j5];rfl);have l53:aA false 1 (.ptr (0,3,5) 0 3) g=some l:=(by rw[jJ,j5];rfl);have D:aA false 1 (.ptr (0,4,6) 0 0) g=some (I (cntJ W[i] J J.length:Nat)):=(by rw[jJ,j6];rfl);have r:aA false 1 (.ptr (0,5,7) 0 0) g=some (B (mayN L S O E W[i] J J.length)):=(by rw[jJ,j7];rfl);have M:nI L S O E W[i] J=if 0<(selN (sureQ L S O E W[i] J) J J.length).length then 2 else if mayN L S O E W[i] J J.length=true\/cntJ W[i] J J.length=0\/0<(selN (blindQ L S W[i] J) J J.length).length+(selN (openQ L S W[i] J) J J.length).length then 1 else 0:=rfl
 simp only[aC,cW,bW,l51,e1l,fT];by_cases c1:0<(selN (sureQ L S O E W[i] J) J J.length).length
 .have c1':(0:Int)<((selN (sureQ L S O E W[i] J) J J.length).length:Int):=(by omega);simp only[c1',bB,aS,rA,j5,hset,aC];exact fin 2 _ _ (by rw[M,aF c1]) (by simp) λj e=>by rw[Mem.bG,aB e]
 .have c1':¬(0:Int)<((selN (sureQ L S O E W[i] J) J J.length).length:Int):=(by omega);rw[aB c1]at M;generalize mayN L S O E W[i] J J.length=bb at *
  have hw1:cJ (((selN (blindQ L S W[i] J) J J.length).length:Int)+((selN (openQ L S W[i] J) J J.length).length:Int))=((selN (blindQ L S W[i] J) J J.length).length:Int)+((selN (openQ L S W[i] J) J J.length).length:Int):=bU;have yes:∀(Y:Nat),nI L S O E W[i] J=1->RetF (YH L S O E W[i] J) ((pL 1 0 0 (I 1) (g.get (0,3,5))).bind λo'=>K5 (aG (d+15)) [] 0 (.ptr (0,2,4) 0 0) (.ptr (0,3,5) 0 0) (g.set (0,3,5) o') Y):=λY h=>by rw[j5,hset,aC];exact fin 1 _ _ h.symm (by simp) λj e=>by rw[Mem.bG,aB e]
  cases bb with
  |true=>simp only[c1',bO,aT,r,aC,dO,dQ,cE,cT,cS,bC,aS,rA];exact yes _ (by rw[M];simp)
  |false=>
   by_cases c2:cntJ W[i] J J.length=0
   .have c2':((cntJ W[i] J J.length:Nat):Int)=0:=(by omega);simp only[c1',bO,aT,r,D,aC,dO,dQ,cC,bC,iD,c2',bB,cS,cT,cE,aS,rA];exact yes _ (by rw[M];simp[c2])
   .have c2':¬((cntJ W[i] J J.length:Nat):Int)=0:=(by omega);by_cases c3:0<(selN (blindQ L S W[i] J) J J.length).length+(selN (openQ L S W[i] J) J J.length).length
    .have c3':(0:Int)<((selN (blindQ L S W[i] J) J J.length).length:Int)+((selN (openQ L S W[i] J) J J.length).length:Int):=(by omega);simp only[c1',bO,aT,r,D,l52,l53,e2l,e3l,aC,dO,dQ,cC,bC,iD,c2',cS,cT,dS,hw1,fT,c3',bB,aS,rA];exact yes _ (by rw[M];simp[c3])
    .have c3':¬(0:Int)<((selN (blindQ L S W[i] J) J J.length).length:Int)+((selN (openQ L S W[i] J) J J.length).length:Int):=(by omega);simp only[c1',bO,aT,r,D,l52,l53,e2l,e3l,aC,dO,dQ,cC,bC,iD,c2',cS,cT,dS,hw1,fT,c3',aT];exact fin 0 _ _ (by rw[M];simp[c2,c3]) j5 λ_ _=>rfl
def x0u(t:Nat):bP prog .eql YU (.tmp t) (.const .nilIface) (AV.sc .nilIface) (AV.sc .nilIface)=some (B true):=by kernel_rfl
def x6g(t:Nat):bP prog .eql YU (.tmp t) (.const .nilIface) (.un wX) (AV.sc .nilIface)=some (B false):=by refine xsv (A:=wX) (B:=λv=>v=.nilIface) (v0:=.bool false) ⟨⟨.iface 0 .nilIface,0,.nilIface,rfl⟩,λv h=>h⟩ (Is.sc rfl) rfl ?_;rintro u v ⟨t,z,rfl⟩ rfl;exact OkR.run (a:=Value.bool false) (R:=λv=>v=.bool false) rfl (by kernel_rfl)
def xbj(d:Nat){w:List UInt8}(u:w.length<=100000)(m:Mem):∃n,aI (aG (d+4)) yY [Tx w] m=some (.tup [I n,B (nC w 9).isSome],m)/\∀k,nC w 9=some k->n=k:=by
 suffices i:RetF (λv=>∃n,v=.tup [I n,B (nC w 9).isSome]/\∀k,nC w 9=some k->n=k) (aG (d+4) [] yY [Tx w] mem0) by obtain⟨v,⟨n,rfl,h⟩,t⟩:=rS (by rfl) i m;exact⟨n,t,h⟩
 rw[<-xqi w (by omega:9<=18),yau];unfold pw bQ UI;simp only[mem0];generalize (⟨[],0+1⟩:Mem)=m1;rcases xp0 (d+2) (l:=w) (by omega) m1 with ⟨n,f,p⟩|⟨f,n,p⟩
 .have b:=xkh f;have j:=λm=>YZ (d+2) b.1 b.2 m
  have e:L9 w 9=if jC n=w/\(oU w).length<=9 then some n else none:=by unfold L9;rw[f]
  simp only[p,aC,lY,kG,kH,x0u,fA,dO,fI,iC,bC,j,oT,cS];by_cases g:jC n=w
  .simp only[g,bB,bC,aC,xoz,hZ,LE];by_cases r:(oU w).length<=9
   .have o:((oU w).length:Int)<=9:=(by omega);rw[e,aF ⟨g,r⟩];simp only[o,bB];exact RetF.tup rfl ⟨n,rfl,λk a=>oM a⟩
   .have o:¬((oU w).length:Int)<=9:=(by omega);rw[e,aB (λh=>r h.2)];simp only[o,bO];exact RetF.tup rfl ⟨n,rfl,λk a=>by cases a⟩
  .rw[e,aB (λh=>g h.1)];simp only[g,bO,cT,aC];exact RetF.tup rfl ⟨n,rfl,λk a=>by cases a⟩
 .have e:L9 w 9=none:=by
   unfold L9;split
   .rename_i q h;exact absurd h (f q)
   .rfl
  rw[e];simp only[p,aC,lY,kG,kH,x6g,fA,dO,fI,iC,cT,cS];exact RetF.tup rfl ⟨n,rfl,λk a=>by cases a⟩
structure IntoN (m:Mem) (pid rid:Id) (pre:List AV) (vs:List Int):Prop where
 p:m.get pid=some (.row ((List.range vs.length).map λj=>AV.ptr rid 0 (pre.length+j)) 0 false)
 r:m.get rid=some (.row (pre++vs.map λv=>I v) 0 false)
 ne:pid≠rid
def xyr(a:List AV):∀(b:List Int) (k:Nat) (d:k<b.length) (n:Int),cH (a++b.map λv=>I v) (a.length+k) [I n]=a++(b.set k n).map λv=>I v:=by intro b k d n;unfold cH;rw[List.take_append,dT (by omega),show a.length+k-a.length=k by omega,n9,mE (by simp;omega),iX,kU];congr 1;rw[show a.length+k+[I n].length-a.length=k+1 by simp;omega,<-jk,<-List.map_drop,jf,aF d];simp
variable{pid rid:Id}{pre:List AV}
def x3b(d:Nat)(Z:FHs)(u:Nat){x:AV}{b:List (List UInt8)}(hx:Sl dC x b)(hw:∀w∈b,w.length<=100000):∀(r k:Nat) (a:List Int) (j:Nat) (m:Mem) (Y:Nat),k+r=a.length->a.length<=b.length->a.length<=1000->r<j->IntoN m pid rid pre a ->
    ∃y f,AL (aG (d+4)) Z u j x (.sref pid 0 0 a.length 1 true) (I a.length) (I k) m Y=some (B (iF 9 ((b.take a.length).drop k)).isSome,y)/\f.length=a.length/\y.get rid=some (.row (pre++f.map λv=>I v) 0 false)/\(∀l,iF 9 ((b.take a.length).drop k)=some l->f=a.take k++l)/\y.next=m.next/\∀j,j≠rid->y.get j=m.get j:=by
 intro r;induction r with
 |zero=>intro k a j m Y E e W C h;obtain⟨j,rfl⟩:∃i,j=i+1:=⟨j-1,by omega⟩;have A:¬((k:Int)<(a.length:Int)):=(by omega);have he:(b.take a.length).drop k=[]:=mE (by rw[lV];omega);simp only[AL];unfold UQ ye;simp only[bV,A,bO,aC,aT];rw[he];exact⟨m,a,rfl,rfl,h.r,λl e=>by cases e;rw[hW,dT (by omega)],rfl,λ_ _=>rfl⟩
 |succ r ih=>
  intro k a j m Y E e W C h;obtain⟨j,rfl⟩:∃i,j=i+1:=⟨j-1,by omega⟩;have A:k<a.length:=(by omega);have hk':(k:Int)<(a.length:Int):=(by omega);have o:k<b.length:=(by omega);have F:k<(b.take a.length).length:=(by rw[lV];omega);have X:(b.take a.length).drop k=b[k]::(b.take a.length).drop (k+1):=(by rw[Y3 F,OA]);have t:=hx.ix nT o;have H:=hw _ (eU o);rw[Y3 o,dK]at t;simp only[dC,NX]at t;have hp:aV 1 (.sref pid 0 0 a.length 1 true) (I k)=some (.ptr pid 0 k):=(by simp only[aV,dF];rw[aF ⟨by omega,by omega,trivial⟩];simp);have J:aA false 1 (.ptr pid 0 k) m=some (.ptr rid 0 (pre.length+k)):=(by rw[aQ h.p,Y3 (by simpa using A)];simp);have w1:=gJ k (by omega);obtain⟨n,N,O⟩:=xbj d H m;simp only[AL];unfold UQ;simp only[bV,hk',bB,aC,aS,hp,J,t,B3,dE,N,lY,kG,kH];cases P:nC b[k] 9 with
  |none=>have D:iF 9 ((b.take a.length).drop k)=none:=(by rw[X,iF,P]);simp only[xH,eG,cC,aC,aS];rw[D];exact⟨m,a,rfl,rfl,h.r,λl e=>(by cases e),rfl,λ_ _=>rfl⟩
  |some q=>
   obtain rfl:n=q:=O q P;have L:∀{R:Type} (K:Mem->Option R),bA 1 (.ptr rid 0 (pre.length+k)) (I n) m K=K (m.set rid (.row (pre++(a.set k n).map λv=>I v) 0 false)):=λK=>by rw[iB (z:=1) (x:=I n) h.r rfl (by simp;omega) rfl];show K (m.set rid (.row (cH (pre++a.map λv=>I v) (pre.length+k) [I n]) 0 false))=_;rw[xyr pre a k A n]
   simp only[Option.isSome_some,eG,cE,aC,aT,cD,L,dS,w1];generalize g:m.set rid (.row (pre++(a.set k n).map λv=>I v) 0 false)=m2;have M:IntoN m2 pid rid pre (a.set k n):=⟨by rw[<-g,Mem.bG,aB h.ne,nO];exact h.p,by rw[<-g,Mem.bG,aF rfl],h.ne⟩;obtain⟨y,f,e1,e2,e3,e4,e5,e6⟩:=ih (k+1) (a.set k n) j m2 (Y+24) (by rw[nO];omega) (by rw[nO];exact e) (by rw[nO];exact W) (by omega) M;rw[nO]at e1 e2 e4;have D:iF 9 ((b.take a.length).drop k)=match iF 9 ((b.take a.length).drop (k+1))with|some l=>some (n::l)|none=>none:=by rw[X,iF,P];cases iF 9 ((b.take a.length).drop (k+1))<;>rfl
   refine⟨y,f,?_,e2,e3,λl e=>?_,by rw[e5,<-g];rfl,λj C=>by rw[e6 j C,<-g,Mem.bG,aB C]⟩
   .rw[e1,D];cases iF 9 ((b.take a.length).drop (k+1))<;>rfl
   .rw[D]at e;cases Q:iF 9 ((b.take a.length).drop (k+1))with
    |none=>rw[Q]at e;cases e
    |some l2=>rw[Q]at e;cases e;rw[e4 l2 Q,List.take_set,mS A,xk6 _ _ (by simp;omega)];simp;rw[show k-min k a.length=0 by omega];simp
def xfb:Id->Prop:=λid=>id.2.2=47
def xfa:Id->Prop:=λid=>id.2.2=69
def SR(m:Mem)(a:Id)(S:List Scene)(P:List Pq):Prop:=∃v w,m.get a=some (.row [v,w] 0 false)/\Gk 3 Scene.c xfb m v S/\Gk 2 Pq.c xfa m w P
def xaq:v7=[AV.sc (.pointer none)]:=by kernel_rfl
def xfv{R:Type}(a:Id)(b d:Nat)(id:Id)(m:Mem)(K:AV->Mem->Option R):cV v7 [(0,1,.ptr a 0 b),(1,1,.ptr a 0 d)] 2 1 id m K=K (.sref id 0 0 2 1 true) (m.new id (.row [.ptr a 0 b,.ptr a 0 d] 0 false)):=by rw[xaq];rfl
def Sl.drop_strs{x:AV}{l:List (List UInt8)}{n:Nat}(e:x=.aN (l.flatMap dC) l.length false)(h:n<=l.length):∃y,dZ prog iQ x (some (I n)) none=some y/\Sl dC y (l.drop n):=by
 subst e;have f:∃i,prog.info? bN=some i/\i.size=1:=(by have d:(prog.info? bN).map (λi=>i.size)=some 1:=(by kernel_rfl);rw[cM]at d;exact d);obtain⟨j,a,b⟩:=f;have g:=KR l;refine⟨.aN ((l.flatMap dC).drop n) (l.length-n) false,?_,.inr ⟨false,?_⟩⟩
 .simp only[dZ,dL,xca,a,b,dF,Option.getD_some,Option.getD_none];rw[aF ⟨by omega,by omega,by omega,by omega⟩];congr 2
  .rw[jF,dT (by rw[HR];omega),oN]
  .omega
 .rw[HR];congr 1;have:=wV nT l n;rwa[oN]at this
def SR.frame{m m':Mem}{d:Id}{S:List Scene}{P:List Pq}(h:SR m d S P)(g:m'.get d=m.get d)(f:∀j,xfb j\/xfa j->m'.get j=m.get j):SR m' d S P:=by obtain⟨v,w,a,b,c⟩:=h;exact⟨v,w,by rw[g];exact a,b.frame λj e=>f j (.inl e),c.frame λj e=>f j (.inr e)⟩
theorem Scene.stl(s:Scene):s.c.all aP=true:=rfl
end Go.Ix
namespace Go.Ix
open Go.Proofs
variable{pid rid:Id}{pre:List AV}
def KH(d:Nat)(Z:FHs){x:AV}{f:List (List UInt8)}(t:Sl dC x f)(u:∀w∈f,w.length<=100000){m:Mem}{a:List Int}(y:a.length<=f.length)(A:a.length<=1000)(g:IntoN m pid rid pre a) :
    ∃e b,aG (d+5) Z rL [x,.sref pid 0 0 a.length 1 true] m=some (B (iF 9 (f.take a.length)).isSome,e)/\b.length=a.length/\e.get rid=some (.row (pre++b.map λv=>I v) 0 false)/\(∀l,iF 9 (f.take a.length)=some l->b=l)/\e.next=m.next+1/\∀j,j≠rid->e.get j=m.get j:=by
 rw[yaz];unfold qb aU UP yd;simp only[show aM prog xa7 (.sref pid 0 0 a.length 1 true)=some (I a.length)from rfl,aC];have i:IntoN ⟨m.hp,m.next+1⟩ pid rid pre a:=⟨g.p,g.r,g.ne⟩;obtain⟨e,b,n,C,D,o,E,F⟩:=x3b d Z m.next t u a.length 0 a NN ⟨m.hp,m.next+1⟩ (0+1+3) (by omega) y A (by rw[dB];omega) i;rw[bF]at n o;exact⟨e,b,n,C,D,λl h=>by rw[o l h];rfl,E,F⟩
def cx:List UInt8:=[115,99,101,110,101]
def cy:List UInt8:=[112,97,105,114]
def dc:List UInt8:=[99,111,114,114,101,99,116]
def cz:List UInt8:=[108,101,118,101,108]
def db:List UInt8:=[99,111,110,102,105,114,109]
def cw:List UInt8:=[99,108,111,115,101]
def kR(k:List UInt8):Option (Int×Nat×FuncId):=
 if k=cx then some (2,3,T2)else if k=cy then some (2,4,T1)else if k=dc then some (2,2,T0)else
 if k=cz then some (1,4,S9)else if k=db then some (3,1,S8)else if k=cw then some (3,1,S7)else none
def qB(x:Int×Nat×FuncId):AV:=.agg [I x.1,I (x.2.1:Int),.clo x.2.2 []]
def frZ:AV:=.agg vK
def sS(k:List UInt8):Value:=.string ⟨k.toArray⟩
def xsb(k w:List UInt8):gU (sS k) (sS w)=decide (k=w):=by show(k.toArray == w.toArray)=_;rw[PE,beq_iff_eq,mP];simp
def G8:List (Value×AV):=[(sS cx,qB (2,3,T2)),(sS cy,qB (2,4,T1)),(sS dc,qB (2,2,T0)),(sS cz,qB (1,4,S9)),(sS db,qB (3,1,S8)),(sS cw,qB (3,1,S7))]
def x55(k:List UInt8):findKey (sS k) G8=(kR k).map qB:=by unfold G8 kR;simp only[findKey,xsb,mP,apply_ite (Option.map qB),Option.map_some,Option.map_none]
def x5w:frZ.cells.length=3:=by kernel_rfl
def x5u:frZ.cells.all AV.one=true:=by kernel_rfl
def eu:vK.length=3:=by kernel_rfl
def ew(d:AV)(e:Mem):Option (AV×Mem):=
 (cN d 0).bind λf=>
 (cN d 1).bind λg=>
 dH vK (0,21,4) e λj h=>
 bA 3 j f h λa=>
 (aA true 3 j a).bind λi=>
 bA 3 (.ptr (0,0,2) 0 0) i a λb=>
 (kY true 3 (.ptr (0,0,2) 0 0) b).bind λr0=>
 some (AV.tup [r0,g],b)
def x5t(d:Nat)(k:List UInt8):aG (d+1) [] wG [Tx k] mem0=(some (AV.tup [(findKey (sS k) G8).getD frZ,B (findKey (sS k) G8).isSome])).bind λt=>ew t ⟨[(0,[(2,7,.map G8),(0,2,.row vK 0 false)])],1⟩:=by kernel_rfl
def x5v:(ew (AV.tup [frZ,B false]) ⟨[(0,[(2,7,.map G8),(0,2,.row vK 0 false)])],1⟩).map (λp=>p.1)=some (.tup [frZ,B false]):=by kernel_rfl
def x5s(r:Int)(n:Nat)(f:FuncId):(ew (AV.tup [qB (r,n,f),B true]) ⟨[(0,[(2,7,.map G8),(0,2,.row vK 0 false)])],1⟩).map (λp=>p.1)=some (.tup [qB (r,n,f),B true]):=by kernel_rfl
theorem x5x(a:Id->Option Ob)(r:Int)(n:Nat)(f:FuncId):Go.Ix.frz a bR (.tup [qB (r,n,f),B true])=some (.tup [qB (r,n,f),B true]):=by rfl
def x5y(a:Id->Option Ob):Go.Ix.frz a bR (.tup [frZ,B false])=some (.tup [frZ,B false]):=by kernel_rfl
def qC(k:List UInt8):AV:=((kR k).map qB).getD frZ
def V8(k:List UInt8):(qC k).cells.length=3/\(qC k).cells.all AV.one=true:=by
 unfold qC;cases kR k with
 |none=>exact⟨x5w,x5u⟩
 |some x=>exact⟨rfl,rfl⟩
def YY(d:Nat)(k:List UInt8)(m:Mem):aI (aG (d+1)) wG [Tx k] m=some (.tup [qC k,B (kR k).isSome],m):=by
 have b:(aG (d+1) [] wG [Tx k] mem0).map (λp=>p.1)=some (.tup [qC k,B (kR k).isSome]):=by
  rw[x5t,x55];unfold qC;simp only[aC];cases kR k with
  |none=>exact x5v
  |some x=>obtain⟨r,n,f⟩:=x;exact x5s r n f
 obtain⟨p,g,h⟩:=cM.mp b;have e:∀a,Go.Ix.frz a bR (.tup [qC k,B (kR k).isSome])=some (.tup [qC k,B (kR k).isSome]):=by
  intro a;unfold qC;cases kR k with
  |none=>exact x5y a
  |some x=>obtain⟨r,n,f⟩:=x;exact x5x a r n f
 unfold aI;rw[zN (l:=[Tx k]) _ rfl];simp only[g,h,e,Option.map_some,CY (l:=[Tx k]) _ rfl];rfl
def oL{z:Nat}{cs:List AV}{x:AV}(b:x.cells.all AV.one=true)(d:x.cells.length=z)(f:cs.length=z)(id:Id)(m:Mem):∃M:Mem,M.next=m.next/\M.get id=some (.row x.cells 0 false)/\(∀j,j≠id->M.get j=m.get j) /\
    ∀{R:Type} (K:AV->Mem->Option R),(dH cs id m λt e=>bA z t x e (K t))=K (.ptr id 0 0) M:=by
 refine⟨(m.new id (.row cs 0 false)).set id (.row x.cells 0 false),rfl,Mem.uY _ _ _,λj a=>?_,λK=>?_⟩
 .rw[Mem.bG,aB a,Mem.dI,aB a]
 .rw[lQ,iB (by rw[Mem.dI,aF rfl]) d (by omega) b];have:cH cs 0 x.cells=x.cells:=(by unfold cH;rw[kF,iX,mE (by omega),hW]);rw[this]
def wN:List UInt8:=[102,105,120]
def pD(t:List UInt8):Int:=
 if 200<t.length then 8 else if 10∈t\/(bH t).2.2=false then 7 else if kR (bH t).1=none/\(bH t).1≠wN then 15 else 0
def xbt(d:Nat){t:List UInt8}(f:t.length<=100000)(m:Mem):aI (aG (d+6)) yZ [Tx t] m=some (I (pD t),m):=by
 refine Ans.eR (m:=m) ?_ rfl rfl;unfold Ans;rw[ybe];unfold qq bQ VJ;rw[show(AV.sc (.string ⟨#[32]⟩))=Tx [32]from rfl,show(AV.sc (.string ⟨#[10]⟩))=Tx [10]from rfl,show(AV.sc (.string ⟨#[102,105,120]⟩))=Tx wN from rfl];have g:∀m,aI (aG (d+5)) wG [Tx (bH t).1] m=_:=λm=>YY (d+4) (bH t).1 m
 simp only[mem0,L6 d t f,aC,lY,kG,kH,g];obtain⟨M,-,-,-,i⟩:=oL (V8 (bH t).1).2 (V8 (bH t).1).1 eu (0,0+15,6) ⟨[],0+1⟩;rw[i];unfold pD;simp only[hZ,aC,fT];by_cases b:200<t.length
 .have c1':((t.length:Int) > 200):=(by omega);simp only[b,c1',bB,aS,cI];exact⟨_,rfl⟩
 have c1':¬((t.length:Int) > 200):=(by omega);have h:∀m,aI (aG (d+5)) C4 [Tx t,Tx [10]] m=some (B (decide ((10:UInt8)∈t)),m):=xby d t 10;simp only[b,c1',bO,aT,cU,h,aC,fA,dO,eG];by_cases a:(10:UInt8)∈t
 .simp only[a,bB,iC,dQ,bC,cT,cE,aC,cS,aS,true_or,cI];exact⟨_,rfl⟩
 cases j:(bH t).2.2 with
 |false=>simp only[a,bO,iC,dQ,bC,cT,cC,aC,cS,aS,eG,or_true,cI];exact⟨_,rfl⟩
 |true=>
  simp only[a,bO,iC,dQ,bC,cT,cE,cC,aC,cS,aT,eG,or_self,Bool.true_eq_false,cU];cases l:kR (bH t).1 with
  |some x=>simp only[Option.isSome_some,cE,aC,cT,aT,reduceCtorEq,false_and,cU];exact⟨_,rfl⟩
  |none=>
   simp only[xH,cC,aC,bC,true_and];by_cases e:(bH t).1=wN
   .simp only[e,BU,aC,bB,cE,aT,ne_eq,not_true_eq_false,cU];exact⟨_,rfl⟩
   .simp only[e,BU,aC,bO,cC,aS,ne_eq,not_false_eq_true,cI];exact⟨_,rfl⟩
inductive Act10 where
 |scene (n:List UInt8) (d b:Int)
 |pair (p a b:List UInt8) (f:Int)
 |corr (s:List UInt8) (f:Int)
 |level (p s:List UInt8) (v e:Int)
 |conf (b:List UInt8)
 |clos (b:List UInt8)
def tv(l:List UInt8):Value:=.string ⟨l.toArray⟩
def Act10.v:Act10->AV
 | .scene n d b=>.sc (.iface JX (.agg [tv n,.int .i64 d,.int .i64 b].toArray))
 | .pair p a b f=>.sc (.iface JY (.agg [tv p,tv a,tv b,.int .i64 f].toArray))
 | .corr s f=>.sc (.iface KA (.agg [tv s,.int .i64 f].toArray))
 | .level p s v e=>.sc (.iface JZ (.agg [tv p,tv s,.int .i64 v,.int .i64 e].toArray))
 | .conf b=>.sc (.iface YR (tv b))
 | .clos b=>.sc (.iface YS (tv b))
def x1w(n:List UInt8)(d b:Int):oW prog JX (.agg [Tx n,I d,I b])=some (Act10.scene n d b).v:=by kernel_rfl
def x1x(p a b:List UInt8)(f:Int):oW prog JY (.agg [Tx p,Tx a,Tx b,I f])=some (Act10.pair p a b f).v:=by kernel_rfl
def x10(s:List UInt8)(f:Int):oW prog KA (.agg [Tx s,I f])=some (Act10.corr s f).v:=by kernel_rfl
def x1y(p s:List UInt8)(v e:Int):oW prog JZ (.agg [Tx p,Tx s,I v,I e])=some (Act10.level p s v e).v:=by kernel_rfl
def x1z(b:List UInt8):oW prog YR (Tx b)=some (Act10.conf b).v:=by kernel_rfl
def x1v(b:List UInt8):oW prog YS (Tx b)=some (Act10.clos b).v:=by kernel_rfl
def yR(mk:Int->Int->Act10):Option (List Int)->Option Act10
 |some [d,e]=>some (mk d e)
 |_=>none
def yS(mk:Int->Act10):Option (List Int)->Option Act10
 |some [d]=>some (mk d)
 |_=>none
def xfe{N:Option (List Int)}{p q:Int}(mk:Int->Int->Act10)(h:∀l,N=some l->[p,q]=l):(yR mk N).isSome=N.isSome/\∀x,yR mk N=some x->(mk p q).v=x.v:=by
 cases N with
 |none=>exact⟨rfl,λx h=>by cases h⟩
 |some l=>rw[<-h l rfl];exact⟨rfl,λx h=>by cases h;rfl⟩
def xfg{N:Option (List Int)}{p:Int}(mk:Int->Act10)(h:∀l,N=some l->[p]=l):(yS mk N).isSome=N.isSome/\∀x,yS mk N=some x->(mk p).v=x.v:=by
 cases N with
 |none=>exact⟨rfl,λx h=>by cases h⟩
 |some l=>rw[<-h l rfl];exact⟨rfl,λx h=>by cases h;rfl⟩
def LJ:List (List UInt8)->Option Act10
 |[a,b,c]=>yR (.scene a) (iF 9 [b,c])
 |_=>none
def LK:List (List UInt8)->Option Act10
 |[a,b,c,d]=>yS (.pair a b c) (iF 9 [d])
 |_=>none
def LN:List (List UInt8)->Option Act10
 |[a,b]=>yS (.corr a) (iF 9 [b])
 |_=>none
def LM:List (List UInt8)->Option Act10
 |[a,b,c,d]=>yR (.level a b) (iF 9 [c,d])
 |_=>none
def bc:List (List UInt8)->Option Act10
 |[a]=>some (.conf a)
 |_=>none
def az:List (List UInt8)->Option Act10
 |[a]=>some (.clos a)
 |_=>none
def Ext10(m a:Mem):Prop:=m.next<=a.next/\∀j:Id,j.1<m.next->a.get j=m.get j
def Ext10.refl(m:Mem):Ext10 m m:=⟨bS _,λ_ _=>rfl⟩
def Ext10.trans{a b c:Mem}(h:Ext10 a b)(k:Ext10 b c):Ext10 a c:=⟨iW h.1 k.1,λj d=>by rw[k.2 j (eZ d h.1),h.2 j d]⟩
def H9(d:Nat)(f:FuncId)(a:List (List UInt8))(r:Option Act10):Prop:=
 ∀(Z:FHs) (m:Mem),∃b v,aG d Z f [.aN (a.flatMap dC) a.length false] m=some (.tup [v,B r.isSome],b)/\(∀x,r=some x->v=x.v)/\Ext10 m b
def xm1(a:List UInt8):dA pH [(0,1,Tx a)]=some (.agg [Tx a,I 0,I 0]):=by kernel_rfl
def xm0(a:List UInt8):dA BK [(0,3,.agg [Tx a,I 0,I 0])]=some (.agg [Tx a,I 0,I 0]):=by kernel_rfl
def xmq:BK.length=3:=by kernel_rfl
def xfw{R:Type}(a:Id)(b:Nat)(id:Id)(m:Mem)(K:AV->Mem->Option R):cV v7 [(0,1,.ptr a 0 b)] 1 1 id m K=K (.sref id 0 0 1 1 true) (m.new id (.row [.ptr a 0 b] 0 false)):=by rw[xaq];rfl
def xtu(d:Nat){a b c:List UInt8}(Y:b.length<=100000)(hc:c.length<=100000):H9 (d+6) T2 [a,b,c] (LJ [a,b,c]):=by
 intro Z m;rw[ya8];unfold qk bQ VB;have E:aV 1 (.aN ([a,b,c].flatMap dC) [a,b,c].length false) (I 0)=some (.aH [Tx a,Tx b,Tx c]):=rfl;have F:∀m,aA false 1 (.aH [Tx a,Tx b,Tx c]) m=some (Tx a):=λ_=>rfl
 obtain⟨y,C,r⟩:=Sl.drop_strs (l:=[a,b,c]) rfl (n:=1) (by simp);rw[show((1:Nat):Int)=1 from rfl]at C;obtain⟨M,N,O,P,Q⟩:=oL (z:=3) (cs:=BK) (x:=.agg [Tx a,I 0,I 0]) rfl rfl xmq (m.next,0+7,4) ⟨m.hp,m.next+1⟩;simp only[E,F,aC,xm1,xm0,Q,C,cW,xfv];generalize e:M.new (m.next,0+15,17) _=M2;have H:IntoN M2 (m.next,0+15,17) (m.next,0+7,4) [Tx a] [0,0]:=⟨by rw[<-e,Mem.dI,aF rfl];rfl,by rw[<-e,Mem.dI,aB (λh=>by simp[Prod.ext_iff]at h),O];rfl,λh=>by simp[Prod.ext_iff]at h⟩;obtain⟨o,i,J,R,K,L,W,X⟩:=KH d Z r (λw t=>by simp at t;rcases t with rfl|rfl<;>assumption) (by simp) (by simp) H;obtain⟨p,q,rfl⟩:∃p q,i=[p,q]:=by
  match i,R with
  |[p,q],_=>exact⟨p,q,rfl⟩
 have e1':aG (d+5) Z rL [y,.sref (m.next,0+15,17) 0 0 2 1 true] M2=some (B (iF 9 [b,c]).isSome,o):=J;have e3':o.get (m.next,0+7,4)=some (.row [Tx a,I p,I q] 0 false):=K;have e4':∀l,iF 9 [b,c]=some l->[p,q]=l:=L;have ld:aA true 3 (.ptr (m.next,0+7,4) 0 0) o=some (.agg [Tx a,I p,I q]):=(by rw[aQ e3'];rfl);simp only[e1',aC,ld,x1w];have f:=xfe (.scene a) e4';have A:LJ [a,b,c]=yR (.scene a) (iF 9 [b,c]):=rfl;refine⟨o,(Act10.scene a p q).v,by rw[A,f.1],λx D=>f.2 x (by rw[<-A];exact D),?_⟩
 .refine⟨by rw[W,<-e];show _<=M.next+1;rw[N];simp;omega,λj u=>?_⟩;have g:∀{a b:Nat},j≠(m.next,a,b):=λh=>by rw[h]at u;simp at u
  rw[X j g,<-e,Mem.dI,aB g,P j g];rfl
def xm2(a b c:List UInt8):dA BL [(0,1,Tx a),(1,1,Tx b),(2,1,Tx c)]=some (.agg [Tx a,Tx b,Tx c,I 0]):=by kernel_rfl
def xms:BL.length=4:=by kernel_rfl
def xtt(d:Nat){a b c e:List UInt8}(F:e.length<=100000):H9 (d+6) T1 [a,b,c,e] (LK [a,b,c,e]):=by
 intro Z m;rw[ya7];unfold qj bQ VA;have J:aV 1 (.aN ([a,b,c,e].flatMap dC) [a,b,c,e].length false) (I 0)=some (.aH [Tx a,Tx b,Tx c,Tx e]):=rfl;have K:aV 1 (.aN ([a,b,c,e].flatMap dC) [a,b,c,e].length false) (I 1)=some (.aH [Tx b,Tx c,Tx e]):=rfl;have L:aV 1 (.aN ([a,b,c,e].flatMap dC) [a,b,c,e].length false) (I 2)=some (.aH [Tx c,Tx e]):=rfl;have N:∀x r m,aA false 1 (.aH (x::r)) m=some x:=λ_ _ _=>rfl
 obtain⟨y,E,u⟩:=Sl.drop_strs (l:=[a,b,c,e]) rfl (n:=3) (by simp);rw[show((3:Nat):Int)=3 from rfl]at E;obtain⟨M,X,Y,hk,hM⟩:=oL (z:=4) (cs:=BL) (x:=.agg [Tx a,Tx b,Tx c,I 0]) rfl rfl xms (m.next,0+12,4) ⟨m.hp,m.next+1⟩;have O:∀x,aZ (tR (.aH x)) (some [],some [(m.next,0+12,4)])=true:=λ_=>rfl
 simp only[J,K,L,N,aC,xm2,hM,E,cW,xfw,O,iL,cond_true];generalize f:M.new (m.next,0+17,19) _=M2;have P:IntoN M2 (m.next,0+17,19) (m.next,0+12,4) [Tx a,Tx b,Tx c] [0]:=⟨by rw[<-f,Mem.dI,aF rfl];rfl,by rw[<-f,Mem.dI,aB (λh=>by simp[Prod.ext_iff]at h),Y];rfl,λh=>by simp[Prod.ext_iff]at h⟩;obtain⟨t,o,Q,e2,R,W,e5,e6⟩:=KH d Z u (λw A=>by simp at A;rw[A];exact F) (by simp) (by simp) P;obtain⟨p,rfl⟩:∃p,o=[p]:=by
  match o,e2 with
  |[p],_=>exact⟨p,rfl⟩
 have e1':aG (d+5) Z rL [y,.sref (m.next,0+17,19) 0 0 1 1 true] M2=some (B (iF 9 [e]).isSome,t):=Q;have e3':t.get (m.next,0+12,4)=some (.row [Tx a,Tx b,Tx c,I p] 0 false):=R;have e4':∀l,iF 9 [e]=some l->[p]=l:=W;have ld:aA true 4 (.ptr (m.next,0+12,4) 0 0) t=some (.agg [Tx a,Tx b,Tx c,I p]):=(by rw[aQ e3'];rfl);simp only[e1',aC,ld,x1x];have g:=xfg (.pair a b c) e4';have D:LK [a,b,c,e]=yS (.pair a b c) (iF 9 [e]):=rfl;refine⟨t,(Act10.pair a b c p).v,by rw[D,g.1],λx H=>g.2 x (by rw[<-D];exact H),?_⟩
 .refine⟨by rw[e5,<-f];show _<=M.next+1;rw[X];simp;omega,λj C=>?_⟩;have i:∀{a b:Nat},j≠(m.next,a,b):=λh=>by rw[h]at C;simp at C
  rw[e6 j i,<-f,Mem.dI,aB i,hk j i];rfl
def xm8(a:List UInt8):dA BN [(0,1,Tx a)]=some (.agg [Tx a,I 0]):=by kernel_rfl
def xmw:BN.length=2:=by kernel_rfl
def xts(d:Nat){a e:List UInt8}(F:e.length<=100000):H9 (d+6) T0 [a,e] (LN [a,e]):=by
 intro Z m;rw[ya6];unfold qi bQ UZ;have J:aV 1 (.aN ([a,e].flatMap dC) [a,e].length false) (I 0)=some (.aH [Tx a,Tx e]):=rfl;have K:∀x r m,aA false 1 (.aH (x::r)) m=some x:=λ_ _ _=>rfl
 obtain⟨y,E,u⟩:=Sl.drop_strs (l:=[a,e]) rfl (n:=1) (by simp);rw[show((1:Nat):Int)=1 from rfl]at E;obtain⟨M,Q,R,W,X⟩:=oL (z:=2) (cs:=BN) (x:=.agg [Tx a,I 0]) rfl rfl xmw (m.next,0+6,4) ⟨m.hp,m.next+1⟩;simp only[J,K,aC,xm8,X,E,cW,xfw];generalize f:M.new (m.next,0+11,13) _=M2;have L:IntoN M2 (m.next,0+11,13) (m.next,0+6,4) [Tx a] [0]:=⟨by rw[<-f,Mem.dI,aF rfl];rfl,by rw[<-f,Mem.dI,aB (λh=>by simp[Prod.ext_iff]at h),R];rfl,λh=>by simp[Prod.ext_iff]at h⟩;obtain⟨t,o,N,Y,O,P,e5,e6⟩:=KH d Z u (λw A=>by simp at A;rw[A];exact F) (by simp) (by simp) L;obtain⟨p,rfl⟩:∃p,o=[p]:=by
  match o,Y with
  |[p],_=>exact⟨p,rfl⟩
 have e1':aG (d+5) Z rL [y,.sref (m.next,0+11,13) 0 0 1 1 true] M2=some (B (iF 9 [e]).isSome,t):=N;have e3':t.get (m.next,0+6,4)=some (.row [Tx a,I p] 0 false):=O;have e4':∀l,iF 9 [e]=some l->[p]=l:=P;have ld:aA true 2 (.ptr (m.next,0+6,4) 0 0) t=some (.agg [Tx a,I p]):=(by rw[aQ e3'];rfl);simp only[e1',aC,ld,x10];have g:=xfg (.corr a) e4';have D:LN [a,e]=yS (.corr a) (iF 9 [e]):=rfl;refine⟨t,(Act10.corr a p).v,by rw[D,g.1],λx H=>g.2 x (by rw[<-D];exact H),?_⟩
 .refine⟨by rw[e5,<-f];show _<=M.next+1;rw[Q];simp;omega,λj C=>?_⟩;have i:∀{a b:Nat},j≠(m.next,a,b):=λh=>by rw[h]at C;simp at C
  rw[e6 j i,<-f,Mem.dI,aB i,W j i];rfl
def xm4(a b:List UInt8):dA BM [(0,1,Tx a),(1,1,Tx b)]=some (.agg [Tx a,Tx b,I 0,I 0]):=by kernel_rfl
def xmu:BM.length=4:=by kernel_rfl
def xtr(d:Nat){a b c e:List UInt8}(hc:c.length<=100000)(he:e.length<=100000):H9 (d+6) S9 [a,b,c,e] (LM [a,b,c,e]):=by
 intro Z m;rw[ya5];unfold qh bQ UY;have H:aV 1 (.aN ([a,b,c,e].flatMap dC) [a,b,c,e].length false) (I 0)=some (.aH [Tx a,Tx b,Tx c,Tx e]):=rfl;have J:aV 1 (.aN ([a,b,c,e].flatMap dC) [a,b,c,e].length false) (I 1)=some (.aH [Tx b,Tx c,Tx e]):=rfl;have K:∀x r m,aA false 1 (.aH (x::r)) m=some x:=λ_ _ _=>rfl
 obtain⟨y,E,u⟩:=Sl.drop_strs (l:=[a,b,c,e]) rfl (n:=2) (by simp);rw[show((2:Nat):Int)=2 from rfl]at E;obtain⟨M,R,W,X,Y⟩:=oL (z:=4) (cs:=BM) (x:=.agg [Tx a,Tx b,I 0,I 0]) rfl rfl xmu (m.next,0+9,4) ⟨m.hp,m.next+1⟩;have L:∀x,aZ (tR (.aH x)) (some [],some [(m.next,0+9,4)])=true:=λ_=>rfl
 simp only[H,J,K,aC,xm4,Y,E,cW,xfv,L,iL,cond_true];generalize f:M.new (m.next,0+15,17) _=M2;have N:IntoN M2 (m.next,0+15,17) (m.next,0+9,4) [Tx a,Tx b] [0,0]:=⟨by rw[<-f,Mem.dI,aF rfl];rfl,by rw[<-f,Mem.dI,aB (λh=>by simp[Prod.ext_iff]at h),W];rfl,λh=>by simp[Prod.ext_iff]at h⟩;obtain⟨t,o,O,e2,P,Q,e5,e6⟩:=KH d Z u (λw A=>by simp at A;rcases A with rfl|rfl<;>assumption) (by simp) (by simp) N;obtain⟨p,q,rfl⟩:∃p q,o=[p,q]:=by
  match o,e2 with
  |[p,q],_=>exact⟨p,q,rfl⟩
 have e1':aG (d+5) Z rL [y,.sref (m.next,0+15,17) 0 0 2 1 true] M2=some (B (iF 9 [c,e]).isSome,t):=O;have e3':t.get (m.next,0+9,4)=some (.row [Tx a,Tx b,I p,I q] 0 false):=P;have e4':∀l,iF 9 [c,e]=some l->[p,q]=l:=Q;have ld:aA true 4 (.ptr (m.next,0+9,4) 0 0) t=some (.agg [Tx a,Tx b,I p,I q]):=(by rw[aQ e3'];rfl);simp only[e1',aC,ld,x1y];have g:=xfe (.level a b) e4';have D:LM [a,b,c,e]=yR (.level a b) (iF 9 [c,e]):=rfl;refine⟨t,(Act10.level a b p q).v,by rw[D,g.1],λx F=>g.2 x (by rw[<-D];exact F),?_⟩
 .refine⟨by rw[e5,<-f];show _<=M.next+1;rw[R];simp;omega,λj C=>?_⟩;have i:∀{a b:Nat},j≠(m.next,a,b):=λh=>by rw[h]at C;simp at C
  rw[e6 j i,<-f,Mem.dI,aB i,X j i];rfl
def xtq(d:Nat)(a:List UInt8):H9 (d+6) S8 [a] (bc [a]):=by
 intro Z m;rw[ya4];unfold qg bQ UX;have e:aV 1 (.aN ([a].flatMap dC) [a].length false) (I 0)=some (.aH [Tx a]):=rfl;have f:∀m,aA false 1 (.aH [Tx a]) m=some (Tx a):=λ_=>rfl
 simp only[e,f,aC,x1z];exact⟨_,_,rfl,λx b=>by cases b;rfl,tJ _,λ_ _=>rfl⟩
def xtp(d:Nat)(a:List UInt8):H9 (d+6) S7 [a] (az [a]):=by
 intro Z m;rw[ya3];unfold qf bQ UW;have e:aV 1 (.aN ([a].flatMap dC) [a].length false) (I 0)=some (.aH [Tx a]):=rfl;have f:∀m,aA false 1 (.aH [Tx a]) m=some (Tx a):=λ_=>rfl
 simp only[e,f,aC,x1v];exact⟨_,_,rfl,λx b=>by cases b;rfl,tJ _,λ_ _=>rfl⟩
def SimO(o a:Option Ob):Prop:=a=o\/∃b v f,o=some (.row b v f)/\a=some (.row b v true)
def SimO.refl(o:Option Ob):SimO o o:=.inl rfl
def SimO.trans{a b c:Option Ob}(h:SimO a b)(k:SimO b c):SimO a c:=by
 rcases k with rfl|⟨cs,v,f,k1,k2⟩
 .exact h
 .rcases h with rfl|⟨cs',v',f',h1,h2⟩
  .exact .inr ⟨cs,v,f,k1,k2⟩
  .rw[h2]at k1;cases k1;exact .inr ⟨cs,v,f',h1,k2⟩
def mN(K:Id->Prop)(j:Id):Prop:=j.2.2=8\/j.2.2=11\/j.2.2=13\/K j
def pP(K:Id->Prop)(j:Id):Prop:=¬mN K j/\j.2.2≠2
variable{K:Id->Prop}
def GrP(K P:Id->Prop)(m a:Mem):Prop:=m.next<=a.next/\∀j:Id,j.1<m.next->¬P j->SimO (m.get j) (a.get j)/\(mN K j->a.get j=m.get j)
abbrev Gr0(K:Id->Prop):=GrP K λ_=>False
def GrP.refl(P:Id->Prop)(m:Mem):GrP K P m m:=⟨bS _,λ_ _ _=>⟨.refl _,λ_=>rfl⟩⟩
def GrP.trans{P:Id->Prop}{a b c:Mem}(h:GrP K P a b)(k:GrP K P b c):GrP K P a c:=⟨iW h.1 k.1,λj d e=>
 ⟨(h.2 j d e).1.trans (k.2 j (eZ d h.1) e).1,λf=>by rw[(k.2 j (eZ d h.1) e).2 f,(h.2 j d e).2 f]⟩⟩
def GrP.weak{P Q:Id->Prop}{a b:Mem}(h:GrP K P a b)(d:∀j,P j->Q j):GrP K Q a b:=⟨h.1,λj e f=>h.2 j e λq=>f (d j q)⟩
def GrP.jS{P L:Id->Prop}{a b:Mem}(h:GrP K P a b)(g:∀j,L j->K j):GrP L P a b:=⟨h.1,λj e f=>⟨(h.2 j e f).1,λd=>(h.2 j e f).2 (by
 rcases d with d|d|d|d
 .exact .inl d
 .exact .inr (.inl d)
 .exact .inr (.inr (.inl d))
 .exact .inr (.inr (.inr (g j d))))⟩⟩
def uO{m:Mem}(b:∀j,K j->j.1<m.next){id:Id}(h:m.next<=id.1)(Z:id.2.2≠8/\id.2.2≠11/\id.2.2≠13/\id.2.2≠2):pP K id:=
 ⟨by rintro(a|a|a|a)<;>first|(have:=b _ a;omega)|omega,Z.2.2.2⟩
def Gr0.to{P:Id->Prop}{a b:Mem}(h:Gr0 K a b):GrP K P a b:=h.weak λ_ h=>h.elim
def Ext10.gr{a b:Mem}(h:Ext10 a b):Gr0 K a b:=⟨h.1,λj d _=>⟨.inl (h.2 j d),λ_=>h.2 j d⟩⟩
def qA(m:Mem):Gr0 K m ⟨m.hp,m.next+1⟩:=⟨tJ _,λ_ _ _=>⟨.refl _,λ_=>rfl⟩⟩
def xhz{a m:Mem}{P:Id->Prop}(h:GrP K P a m){id:Id}(b:a.next<=id.1)(o:Ob):GrP K P a (m.new id o):=⟨h.1,λj d e=>by
 rw[Mem.dI,aB (by rintro rfl;omega)];exact h.2 j d e⟩
def x5a{a m:Mem}{P:Id->Prop}(h:GrP K P a m){id:Id}(b:a.next<=id.1\/P id)(o:Ob):GrP K P a (m.set id o):=⟨h.1,λj e d=>by
 rw[Mem.bG,aB (by rintro rfl;rcases b with h|h;omega;exact d h)];exact h.2 j e d⟩
def jY{a m b:Mem}{P:Id->Prop}(h:GrP K P a m){id:Id}(d:a.next<=id.1\/P id)(f:b.next=m.next)(g:∀j,j≠id->b.get j=m.get j):GrP K P a b:=⟨by rw[f];exact h.1,λj i e=>by
 rw[g j (by rintro rfl;rcases d with h|h;omega;exact e h)];exact h.2 j i e⟩
def xhy{m:Mem}{a:List Id}(h:∀i∈a,¬mN K i):Gr0 K m ⟨mJ a m.hp,m.next⟩:=⟨bS _,λj _ _=>by
 by_cases b:j∈a
 .refine⟨?_,λd=>(h j b d).elim⟩
  show SimO (fK m.hp j) (fK (mJ a m.hp) j)
  rw[congrFun (N2 a m.hp) j]
  unfold shut
  rw[aF b]
  cases e:fK m.hp j with
  |none=>exact .inl rfl
  |some o=>cases o<;>first|exact .inl rfl|exact .inr ⟨_,_,_,rfl,rfl⟩
 .rw[xru b];exact⟨.refl _,λ_=>rfl⟩⟩
variable{α:Type}{z:Nat}{enc:α->List AV}
def Rk(K:Id->Prop)(z:Nat)(e:α->List AV)(m:Mem)(a:AV)(l:List α):Prop:=
 (a=nilS/\l=[])\/(∃x,a=.aN (l.flatMap e) l.length x)\/∃id f x b d,pP K id/\id.1<m.next/\a=.sref id f 0 l.length z x/\m.get id=some (.row (l.flatMap e++d) f b)/\d.all aP=true
def Rk.gr{P:Id->Prop}{m e:Mem}{a:AV}{l:List α}(h:Rk K z enc m a l)(d:GrP K P m e)(g:∀j,pP K j->¬P j):Rk K z enc e a l:=by
 rcases h with h|h|⟨id,ver,x,b,rest,h1,h2,h3,h4,h5⟩
 .exact .inl h
 .exact .inr (.inl h)
 .refine .inr (.inr ?_);rcases(d.2 id h2 (g id h1)).1 with he|⟨cs,v,f,e1,e2⟩
  .exact⟨id,ver,x,b,rest,h1,eZ h2 d.1,h3,by rw[he];exact h4,h5⟩
  .rw[h4]at e1;cases e1;exact⟨id,ver,x,true,rest,h1,eZ h2 d.1,h3,e2,h5⟩
def Rk.frz(j:∀x,(enc x).length=z)(Z:∀x,(enc x).all aP=true){m:Mem}{a:AV}{l:List α}(h:Rk K z enc m a l)(k:Nat):∃g,Go.Ix.frz m.get (k+2) a=some g/\Sl enc g l:=by
 rcases h with ⟨rfl,rfl⟩|⟨x,rfl⟩|⟨id,e,x,b,d,r,t,rfl,p,u⟩
 .exact⟨nilS,rfl,.inl ⟨rfl,rfl⟩⟩
 .exact⟨_,rfl,.inr ⟨x,rfl⟩⟩
 .have o:=fN j l;refine⟨.aN (l.flatMap enc) l.length false,?_,.inr ⟨false,rfl⟩⟩;have i:(l.flatMap enc++d).take (l.length*z)=l.flatMap enc:=by rw[<-o,List.take_left]
  have:=rP (aD:=m.get) (id:=id) (cs:=l.flatMap enc++d) (ver:=e) (off:=0) (n:=l.length) (z:=z) (k:=k) (f:=b) (x:=x) p (by rw[eT];omega) (by
   rw[bF,i];exact pC Z l)
  rw[bF,i]at this;exact this
def Rk.reach(Z:∀x,(enc x).all aP=true){m:Mem}{a:AV}{l:List α}(h:Rk K z enc m a l)(k:Nat):∀i∈Go.Ix.reach m.get (k+2) a,pP K i:=by
 rcases h with ⟨rfl,rfl⟩|⟨x,rfl⟩|⟨id,f,x,b,e,g,o,rfl,j,n⟩
 .intro i d;cases d
 .intro i d;cases d
 .intro i d;rw[xed j (by rw[OE,pC Z l,n];rfl),qJ]at d;rw[d];exact g
def Rk.one{m:Mem}{a:AV}{l:List α}(h:Rk K z enc m a l):a.one=true/\a.cells=[a]:=by rcases h with ⟨rfl,rfl⟩|⟨x,rfl⟩|⟨id,e,x,b,d,f,g,rfl,i,j⟩<;>exact⟨rfl,rfl⟩
structure Lv10 where
 e:Int
 pt:Int
 sc:Int
 mv:Int
 er:Int
def Lv10.c(x:Lv10):List AV:=[I x.e,I x.pt,I x.sc,I x.mv,I x.er]
theorem Lv10.len(x:Lv10):x.c.length=5:=rfl
theorem Lv10.bD(x:Lv10):x.c.all aP=true:=rfl
structure St10 where
 L:List Scene
 S:List OPr
 V:List Lv10
 C:List Int
def FzP(K:Id->Prop)(m:Mem)(h P:List AV):Prop:=h=P\/∃w g i j a e x b n f d,h=[w,g,.sref a e 0 n 3 x,i,j]/\P=[w,g,.aN f n false,i,j]/\pP K a/\a.1<m.next/\m.get a=some (.row (f++d) e b)/\f.length=n*3/\f.all aP=true/\d.all aP=true
def RowP(K:Id->Prop)(m:Mem)(a:Id)(P:List AV)(f:Bool):Prop:=∃b,m.get a=some (.row b 0 f)/\FzP K m b P
def RowP.of{m:Mem}{a:Id}{P:List AV}{f:Bool}(h:m.get a=some (.row P 0 f)):RowP K m a P f:=⟨P,h,.inl rfl⟩
def FzP.gr{Q:Id->Prop}{m d:Mem}{e P:List AV}(h:FzP K m e P)(a:GrP K Q m d)(i:∀j,Q j->mN K j):FzP K d e P:=by
 rcases h with h|⟨w,g,pa,ea,bid,ver,x,b,n,cs,rest,h1,h2,h3,h4,h5,h6⟩
 .exact .inl h
 .rcases(a.2 bid h4 (λo=>h3.1 (i bid o))).1 with he|⟨cs',v',f',e1,e2⟩
  .exact .inr ⟨w,g,pa,ea,bid,ver,x,b,n,cs,rest,h1,h2,h3,eZ h4 a.1,by rw[he];exact h5,h6⟩
  .rw[h5]at e1;cases e1;exact .inr ⟨w,g,pa,ea,bid,ver,x,true,n,cs,rest,h1,h2,h3,eZ h4 a.1,e2,h6⟩
def RowP.gr{Q:Id->Prop}{m b:Mem}{P:List AV}{a:Id}{f:Bool}(h:RowP K m a P f)(Z:SimO (m.get a) (b.get a))(d:GrP K Q m b)(e:∀j,Q j->mN K j):∃g,RowP K b a P g:=by
 obtain⟨i,n,o⟩:=h;rcases Z with he|⟨cs',v',g,e1,e2⟩
 .exact⟨f,i,by rw[he];exact n,o.gr d e⟩
 .rw[n]at e1;cases e1;exact⟨true,i,e2,o.gr d e⟩
def FzP.frz{m:Mem}{j P:List AV}(h:FzP K m j P)(e:P.all aP=true)(k:Nat):j.mapM (Go.Ix.frz m.get (k+2))=some P:=by
 rcases h with rfl|⟨w,g,pa,ea,bid,ver,x,b,n,cs,rest,rfl,rfl,h3,h4,h5,h6,h7,h8⟩
 .exact sP λa i=>uZ m.get (k+1) (dG.mp e a i)
 .have d:∀a,aP a=true->Go.Ix.frz m.get (k+2) a=some a:=λa i=>uZ m.get (k+1) i
  simp only[dY,nP,cR]at e;have l:(cs++rest).take (n*3)=cs:=by rw[<-h6,List.take_left]
  have:=rP (aD:=m.get) (id:=bid) (cs:=cs++rest) (ver:=ver) (off:=0) (n:=n) (z:=3) (k:=k) (f:=b) (x:=x) h5 (by rw[eT];omega) (by
   rw[bF,l];exact h7)
  rw[bF,l]at this;simp only[eO,gS,d w e.1,d g e.2.1,d pa e.2.2.2.1,d ea e.2.2.2.2.1,this];rfl
def FzP.reach{m:Mem}{f P:List AV}(h:FzP K m f P)(d:P.all aP=true)(k:Nat):∀i∈f.flatMap (Go.Ix.reach m.get (k+2)),pP K i:=by
 rcases h with rfl|⟨w,g,pa,ea,bid,ver,x,b,n,cs,rest,rfl,rfl,h3,h4,h5,h6,h7,h8⟩
 .intro i e;obtain⟨a,j,e⟩:=mU.mp e;rw[vV m.get (k+1) (dG.mp d a j)]at e;cases e
 .intro i e;simp only[dY,nP,cR]at d;simp only[dK,xlj,hW,iZ,vV m.get (k+1) d.1,vV m.get (k+1) d.2.1,vV m.get (k+1) d.2.2.2.1,vV m.get (k+1) d.2.2.2.2.1,xN,false_or,or_false,xed h5 (show(cs++rest).all aP=true by rw[OE,h7,h8];rfl),qJ]at e;rw[e];exact h3
structure Bc (K:Id->Prop) (m:Mem) (P:List AV) (X:St10) (cs:List AV):Prop where
 ex:∃sid s p v c f,cs=[.ptr sid 0 0,s,p,v,c]/\sid.1<m.next/\((sid.2.2=2\/sid.2.2=1)/\¬K sid)/\RowP K m sid P f/\Rk K 3 Scene.c m s X.L/\(Rk K 4 OPr.c m p X.S/\(X.S=[]->p=nilS))/\Rk K 5 Lv10.c m v X.V/\Rk K 1 intE m c X.C
def Bc.gr{Q:Id->Prop}{m r:Mem}{P:List AV}{X:St10}{t:List AV}(h:Bc K m P X t)(b:GrP K Q m r)(e:∀j,Q j->mN K j):Bc K r P X t:=by
 obtain⟨a,s,p,v,c,f,y,u,n,A,C,w,D,E⟩:=h.ex;have d:∀j,pP K j->¬Q j:=λj x g=>x.1 (e j g)
 have i:¬Q a:=λg=>by have:=e a g;unfold mN at this;rcases this with h|h|h|h<;>first|exact n.2 h|(have:=n.1;omega)
 obtain⟨F,o⟩:=A.gr (b.2 a u i).1 b e;exact⟨a,s,p,v,c,F,y,eZ u b.1,n,o,C.gr b d,⟨w.1.gr b d,w.2⟩,D.gr b d,E.gr b d⟩
def Bk(K:Id->Prop)(m:Mem)(b:Id)(P:List AV)(X:St10):Prop:=mN K b/\b.1<m.next/\∃a,m.get b=some (.row a 0 false)/\Bc K m P X a
def Bk.gr{Q:Id->Prop}{m d:Mem}{P:List AV}{X:St10}{b:Id}(h:Bk K m b P X)(a:GrP K Q m d)(i:∀j,Q j->mN K j)(n:¬Q b):Bk K d b P X:=by obtain⟨e,g,o,p,r⟩:=h;exact⟨e,eZ g a.1,o,by rw[(a.2 b g n).2 e];exact p,r.gr a i⟩
theorem wQ(x:Int):(intE x).length=1:=rfl
theorem F4(x:Int):(intE x).all aP=true:=rfl
theorem Scene.still10(x:Scene):x.c.all aP=true:=rfl
def Bc.frz{m:Mem}{E O:Int}{A a b:AV}(d:[A,a,b].all aP=true){X:St10}{g:List AV}(h:Bc K m (SC E O A a b) X g)(k:Nat):∃s p v c,g.mapM (Go.Ix.frz m.get (k+3))=some [.aH (SC E O A a b),s,p,v,c]/\Sl Scene.c s X.L/\Sl OPr.c p X.S/\Sl Lv10.c v X.V/\Ints c X.C:=by obtain⟨e,s,p,v,c,f,rfl,Z,h3,j,l,n,o,r⟩:=h.ex;obtain⟨t,u,w⟩:=l.frz Scene.len Scene.still10 (k+1);obtain⟨x,y,D⟩:=n.1.frz OPr.len OPr.bD (k+1);obtain⟨F,H,J⟩:=o.frz Lv10.len Lv10.bD (k+1);obtain⟨M,N,Q⟩:=r.frz wQ F4 (k+1);refine⟨t,x,F,M,?_,w,D,J,Q⟩;obtain⟨P0,R,W⟩:=j;have i:Go.Ix.frz m.get (k+3) (.ptr e 0 0)=some (.aH (SC E O A a b)):=rQ R (W.frz (by show(true&&(true&&[A,a,b].all aP))=true;rw[d];rfl) k);simp only[eO,gS,i,u,y,H,N];rfl
def Bc.reach{m:Mem}{P:List AV}(g:P.all aP=true){X:St10}{d:List AV}(h:Bc K m P X d)(k:Nat):∀i∈d.flatMap (Go.Ix.reach m.get (k+3)),¬mN K i:=by
 obtain⟨b,s,p,v,c,f,rfl,A,j,n,o,r,t,u⟩:=h.ex;intro i a;obtain⟨w,x,y⟩:=n;have l:∀i∈Go.Ix.reach m.get (k+3) (.ptr b 0 0),i=b\/pP K i:=by
  intro i a;have e:Go.Ix.reach m.get (k+3) (.ptr b 0 0)=b::(w.drop 0).flatMap (Go.Ix.reach m.get (k+2)):=by
   show(match m.get b with
    |some (.row d _ _)=>b::(d.drop 0).flatMap (Go.Ix.reach m.get (k+2))
    |_=>[b])=_
   rw[x]
  rw[e,bF]at a;rcases dV.mp a with h|h
  .exact .inl h
  .exact .inr (y.reach g k i h)
 simp only[dK,xlj,hW,iZ]at a;rcases a with a|a|a|a|a
 .rcases l i a with rfl|h
  .unfold mN;rintro(h|h|h|h)<;>first|exact j.2 h|(have:=j.1;omega)
  .exact h.1
 .exact(o.reach Scene.still10 (k+1) i a).1
 .exact(r.1.reach OPr.bD (k+1) i a).1
 .exact(t.reach Lv10.bD (k+1) i a).1
 .exact(u.reach F4 (k+1) i a).1
def Bk.ld{m:Mem}{b:Id}{P:List AV}{X:St10}(h:Bk K m b P X):∃a,m.get b=some (.row a 0 false)/\Bc K m P X a/\a.length=5/\a.all AV.one=true/\aA true 5 (.ptr b 0 0) m=some (.agg a):=by obtain⟨r,t,a,e,d⟩:=h;have h4':=d;obtain⟨i,s,p,v,c,f,rfl,-,-,-,j,l,n,o⟩:=d.ex;exact⟨_,e,h4',rfl,by simp[j.one,l.1.one,n.one,o.one];rfl,by rw[aQ e];rfl⟩
end Go.Ix
namespace Go.Ix
open Go.Proofs
variable{K:Id->Prop}{A pa ea:AV}{W:List Bd}{J:List Pn}{C:List Pe}{E O:Int}{m:Mem}{X:St10}{cs:List AV}
def Bc.frzA{P a:List AV}{s p v c:AV}(h:cs.mapM (Go.Ix.frz m.get 5)=some [.aH a,s,p,v,c])(x:ByteArray):[AV.agg cs,T x].mapM (Go.Ix.frz m.get bR)=some [.agg [.aH a,s,p,v,c],T x]:=by have b:Go.Ix.frz m.get bR (.agg cs)=some (.agg [.aH a,s,p,v,c]):=(by show(cs.mapM (Go.Ix.frz m.get 5)).map AV.agg=_;rw[h];rfl);have d:Go.Ix.frz m.get bR (T x)=some (T x):=kA _ 4 rfl;simp only[eO,gS,b,d];rfl
def gp(d:Nat)(a:[A,pa,ea].all aP=true)(h:Bc K m (SC E O A pa ea) X cs)(f:X.L.length<=1000)(x:ByteArray):fC (aG (d+3)) wH [.agg cs,T x] m=some (I (idxQ (nmQ Scene.nm x) 0 X.L),m):=by obtain⟨s,p,v,c,e,b,g,i,j⟩:=h.frz a 2;obtain⟨n,l⟩:=x33 d (x:=x) (p:=.aH (SC E O A pa ea)) (pr:=p) (lv:=v) (cf:=c) b f rfl (by simp[b.one,g.one,i.one,Sl.one j]);exact xD (Bc.frzA (P:=SC E O A pa ea) e x) l rfl
def xjy(d:Nat)(a:[A,pa,ea].all aP=true)(h:Bc K m (SC E O A pa ea) X cs)(b:Sl Pn.c pa J)(f:J.length<=1000)(x:ByteArray):fC (aG (d+3)) D7 [.agg cs,T x] m=some (I (idxQ (nmQ Pn.nm x) 0 J),m):=by obtain⟨s,p,v,c,e,g,i,j,l⟩:=h.frz a 2;obtain⟨o,n⟩:=x36 d (x:=x) (E:=E) (O:=O) (A:=A) (ea:=ea) (sc:=s) (pr:=p) (lv:=v) (cf:=c) b f (by simp[g.one,i.one,j.one,Sl.one l]);exact xD (Bc.frzA (P:=SC E O A pa ea) e x) n rfl
def xj1(d:Nat)(a:[A,pa,ea].all aP=true)(h:Bc K m (SC E O A pa ea) X cs)(b:Sl Bd.c A W)(f:W.length<=1000)(x:ByteArray):fC (aG (d+3)) wJ [.agg cs,T x] m=some (I (idxQ (nmQ Bd.nm x) 0 W),m):=by obtain⟨s,p,v,c,e,g,i,j,l⟩:=h.frz a 2;obtain⟨o,n⟩:=x4b d (x:=x) (E:=E) (O:=O) (pa:=pa) (ea:=ea) (sc:=s) (pr:=p) (lv:=v) (cf:=c) b f (by simp[g.one,i.one,j.one,Sl.one l]);exact xD (Bc.frzA (P:=SC E O A pa ea) e x) n rfl
def KE(d:Nat)(n:Int){K:Int}(a:0<=K/\K<=4611686018427387904)(m:Mem):aI (aG (d+2)) rJ [I n,I K] m=some (B (wi n (-K) K),m):=by refine eY rfl ?_ m;rw[xjt];unfold OX aU IS;have e:cJ (-K)=-K:=bU;simp[mem0,e,tU];exact RetF.st rfl rfl
variable{α:Type}{z:Nat}{enc:α->List AV}{t e:TypeId}
def Clp(b:α->List AV)(a:AV)(l:List α):Prop:=(a=nilS/\l=[])\/a=.aN (l.flatMap b) l.length true
def CJ(d:∀x,(enc x).length=z)(f:prog.underlying t=some (.slice e))(g:∃i,prog.info? e=some i/\i.size=z)(j:nV prog t nilS none (I 0) (I 0)=some nilS){a:AV}{l:List α}(h:Sl enc a l) :
    ∃b,Clp enc b l/\nV prog t a none (I l.length) (I l.length)=some b:=by
 rcases h with ⟨rfl,rfl⟩|⟨x,rfl⟩
 .exact⟨nilS,.inl ⟨rfl,rfl⟩,j⟩
 .obtain⟨i,m,n⟩:=g;have o:=fN d l;refine⟨_,.inr rfl,?_⟩;simp only[nV,dL,f,m,n,dF,Option.getD_none];rw[aF ⟨by omega,by omega,by omega,trivial,by omega⟩];simp;rw[dT (by omega)]
def Clp.st{a:AV}{l:List α}(h:Clp enc a l):bD a=true:=by rcases h with ⟨rfl,rfl⟩|rfl<;>rfl
def Clp.app{R:Type}(d:∀x,(enc x).length=z){a:AV}{l:List α}(h:Clp enc a l){bytes:Nat}(e:bytes<=100)(g:l.length<=1000)(x:α)(id:Id)(m:Mem)(K:AV->Mem->Option R) :
    cK z bytes id (some (enc x,1)) a m K=K (.sref id 0 0 (l.length+1) z true) (m.new id (.row ((l++[x]).flatMap enc) 0 false)):=by
 have b:∀n,n<=1001->cF n bytes:=λn i=>by unfold cF;have:(2*n+1000)*bytes<=(2*1001+1000)*100:=X8 (by omega) e;omega
 rcases h with ⟨rfl,rfl⟩|rfl
 .simp[cK,b 1 (by omega)]
 .have f:=fN d l;simp only[cK];rw[aF (by omega),aB (by omega),aF (b _ (by omega)),dT (by omega)];simp
def Bc.setL{P:List AV}{b:List AV}(h:Bc K m P X b){v:AV}{l:List Scene}(d:Rk K 3 Scene.c m v l):Bc K m P {X with L:=l} (cH b 1 [v]):=by obtain⟨a,s,p,w,c,f,rfl,e,g,i,r,j,n,o⟩:=h.ex;exact⟨a,v,p,w,c,f,rfl,e,g,i,d,j,n,o⟩
def Bc.setS{P:List AV}{b:List AV}(h:Bc K m P X b){v:AV}{l:List OPr}(d:Rk K 4 OPr.c m v l)(e:l=[]->v=nilS):Bc K m P {X with S:=l} (cH b 2 [v]):=by obtain⟨a,s,p,w,c,f,rfl,g,i,j,n,t,o,r⟩:=h.ex;exact⟨a,s,v,w,c,f,rfl,g,i,j,n,⟨d,e⟩,o,r⟩
def Bc.setV{P:List AV}{b:List AV}(h:Bc K m P X b){v:AV}{l:List Lv10}(d:Rk K 5 Lv10.c m v l):Bc K m P {X with V:=l} (cH b 3 [v]):=by obtain⟨a,s,p,w,c,f,rfl,e,g,i,j,n,r,o⟩:=h.ex;exact⟨a,s,p,v,c,f,rfl,e,g,i,j,n,d,o⟩
def Bc.setC{P:List AV}{b:List AV}(h:Bc K m P X b){v:AV}{l:List Int}(d:Rk K 1 intE m v l):Bc K m P {X with C:=l} (cH b 4 [v]):=by obtain⟨a,s,p,w,c,f,rfl,e,g,i,j,n,o,r⟩:=h.ex;exact⟨a,s,p,w,v,f,rfl,e,g,i,j,n,o,d⟩
def Bk.put{b:Id}{P:List AV}{l:St10}{M:Mem}{a:List AV}{k:Nat}{v:AV}(m:mN K b)(o:b.1<M.next)(p:M.get b=some (.row a 0 false))(r:k+1<=a.length)(e:v.cells=[v])(t:v.one=true)(h:Bc K M P l (cH a k [v])) :
    ∃d,(∀{R:Type} (K:Mem->Option R),bA 1 (.ptr b 0 k) v M K=K d)/\Bk K d b P l/\d.next=M.next/\(∀j,j≠b->d.get j=M.get j)/\d.get b=some (.row (cH a k [v]) 0 false):=by
 have u:GrP K (λj=>j=b) M (M.set b (.row (cH a k [v]) 0 false)):=x5a (P:=λj=>j=b) (.refl _ _) (.inr rfl) _;refine⟨M.set b (.row (cH a k [v]) 0 false),λK=>?_,⟨m,o,_,Mem.uY _ _ _,h.gr u λj f=>by rw[f];exact m⟩,rfl,λj f=>by rw[Mem.bG,aB f],Mem.uY _ _ _⟩;have g:v.cells.length=1:=(by rw[e];rfl);have i:v.cells.all AV.one=true:=(by rw[e];simp[t]);have n:=iB (z:=1) (x:=v) (k:=K) p g r i;rw[e]at n;exact n
def Bk.cells{b:Id}{P:List AV}{X:St10}(h:Bk K m b P X):∃a s p v c f,m.get b=some (.row [.ptr a 0 0,s,p,v,c] 0 false)/\Bc K m P X [.ptr a 0 0,s,p,v,c]/\a.1<m.next/\((a.2.2=2\/a.2.2=1)/\¬K a)/\RowP K m a P f/\Rk K 3 Scene.c m s X.L/\(Rk K 4 OPr.c m p X.S/\(X.S=[]->p=nilS))/\Rk K 5 Lv10.c m v X.V/\Rk K 1 intE m c X.C:=by obtain⟨i,j,cs,e,d⟩:=h;have h4':=d;obtain⟨a,s,p,v,c,f,rfl,h⟩:=d.ex;exact⟨a,s,p,v,c,f,e,h4',h⟩
def Rk.eR{call:aJ}{f:FuncId}{l:List α}{a:AV}{Q:AV->Prop}(n:∀x,(enc x).length=z)(Z:∀x,(enc x).all aP=true)(h:Rk K z enc m a l)(ex:List AV)(b:ex.all bD=true)(e:∀d,Sl enc d l->∃r,Q r/\∀m,aI call f (d::ex) m=some (r,m)):∃r M,Q r/\aI call f (a::ex) m=some (r,M)/\M.next=m.next/\Gr0 K m M:=by obtain⟨d,p,j⟩:=h.frz n Z 4;have o:(a::ex).mapM (Go.Ix.frz m.get bR)=some (d::ex):=(by have e1':Go.Ix.frz m.get bR a=some d:=p;rw[eO,e1',zN _ b];rfl);obtain⟨r,t,e⟩:=e d j;have:=gn o (by rw[dY,j.bD,b];rfl) e;refine⟨r,_,t,this,rfl,xhy λi g=>?_⟩;rw[dK,CY _ b,hW]at g;exact(h.reach Z 4 i g).1
def HC{b:aJ}{f:FuncId}{l:List α}{a:AV}(j:∀x,(enc x).length=z)(Z:∀x,(enc x).all aP=true)(h:Rk K z enc m a l)(n:∀d,Sl enc d l->∃r g,Clp enc r l/\b [] f [d] mem0=some (r,g)):∃r M,Clp enc r l/\aI b f [a] m=some (r,M)/\M.next=m.next/\Gr0 K m M:=
 h.eR (ex:=[]) j Z rfl λd e=>by obtain⟨r,g,i,o⟩:=n d e;exact⟨r,i,λm=>Go.Ix.eR (by rw[dY,e.bD];rfl) o i.st⟩
def x7x(d:Nat){a:AV}{l:List Scene}(h:Rk K 3 Scene.c m a l):∃r M,Clp Scene.c r l/\aI (aG (d+1)) R8 [a] m=some (r,M)/\M.next=m.next/\Gr0 K m M:=
 HC Scene.len Scene.still10 h λi b=>by have e:nV prog kJ nilS none (I 0) (I 0)=some nilS:=(by kernel_rfl);obtain⟨r,f,g⟩:=CJ Scene.len mG xhk e b;rw[x97];unfold oo bQ TB;simp only[b.len mG,aC,g];exact⟨r,_,f,rfl⟩
def x40:∃i,prog.info? xZ=some i/\i.size=4:=by have:(prog.info? xZ).map (·.size)=some 4:=(by kernel_rfl);rw[cM]at this;exact this
def x7y(d:Nat){a:AV}{l:List OPr}(h:Rk K 4 OPr.c m a l):∃r M,Clp OPr.c r l/\aI (aG (d+1)) EP [a] m=some (r,M)/\M.next=m.next/\Gr0 K m M:=
 HC OPr.len OPr.bD h λi b=>by have e:nV prog mW nilS none (I 0) (I 0)=some nilS:=(by kernel_rfl);obtain⟨r,f,g⟩:=CJ OPr.len BX x40 e b;rw[x98];unfold oq bQ TC;simp only[b.len BX,aC,g];exact⟨r,_,f,rfl⟩
def ZG:prog.underlying sA=some (.slice yA):=by kernel_rfl
def x41:∃i,prog.info? yA=some i/\i.size=5:=by have:(prog.info? yA).map (·.size)=some 5:=(by kernel_rfl);rw[cM]at this;exact this
def x7v(d:Nat){a:AV}{l:List Lv10}(h:Rk K 5 Lv10.c m a l):∃r M,Clp Lv10.c r l/\aI (aG (d+1)) EQ [a] m=some (r,M)/\M.next=m.next/\Gr0 K m M:=
 HC Lv10.len Lv10.bD h λi b=>by have e:nV prog sA nilS none (I 0) (I 0)=some nilS:=(by kernel_rfl);obtain⟨r,f,g⟩:=CJ Lv10.len ZG x41 e b;rw[x99];unfold ot bQ TD;simp only[b.len ZG,aC,g];exact⟨r,_,f,rfl⟩
def x42:∃i,prog.info? dP=some i/\i.size=1:=by have:(prog.info? dP).map (·.size)=some 1:=(by kernel_rfl);rw[cM]at this;exact this
def x7z(d:Nat){a:AV}{l:List Int}(h:Rk K 1 intE m a l):∃r M,Clp intE r l/\aI (aG (d+1)) EO [a] m=some (r,M)/\M.next=m.next/\Gr0 K m M:=
 HC wQ F4 h λi b=>by have e:nV prog fE nilS none (I 0) (I 0)=some nilS:=(by kernel_rfl);obtain⟨r,f,g⟩:=CJ wQ jH x42 e b;rw[x96];unfold om bQ TA;simp only[b.len jH,aC,g];exact⟨r,_,f,rfl⟩
end Go.Ix
namespace Go.Ix
open Go.Proofs
variable{K:Id->Prop}{A pa ea:AV}{W:List Bd}{J:List Pn}{C:List Pe}{E O:Int}{m:Mem}{X:St10}{cs:List AV}
def mQ{x:AV}(h:x.cells.all AV.one=true)(id:Id)(m:Mem):∃M:Mem,M.next=m.next/\M.get id=some (.row x.cells 0 false)/\(∀j,j≠id->M.get j=m.get j)/\∀{R:Type} (K:AV->Mem->Option R),cX x id m K=K (.ptr id 0 0) M:=by refine⟨m.new id (.row x.cells 0 false),rfl,by rw[Mem.dI,aF rfl],λj a=>by rw[Mem.dI,aB a],λK=>?_⟩;unfold cX;rw[aF h]
def qI{j i:Id}{v o:Nat}(h:j≠i):aZ (tR (.ptr j v o)) (some [],some [i])=true:=by simp[aZ,tR,jP,h]
def xkn{j i:Id}{v o a b:Nat}(h:j≠i):aZ (tR (.ptr j v o)) (tS (.ptr i a b))=true:=by simp[aZ,tR,tS,jP,h]
def SimO.row{m a:Mem}{j:Id}{cs:List AV}{v:Nat}{f:Bool}(h:SimO (m.get j) (a.get j))(b:m.get j=some (.row cs v f)):∃d,a.get j=some (.row cs v d):=by
 rcases h with e|⟨cs',v',d,e1,e2⟩
 .exact⟨f,by rw[e];exact b⟩
 .rw[b]at e1;cases e1;exact⟨true,e2⟩
def LQ{α:Type}{z bytes k:Nat}{a:α->List AV}(F:∀x,(a x).length=z)(H:bytes<=100){g M:Mem}{b:Id}{P:List AV}{X w:St10}{l:List α}{r:AV}(i:Bk K g b P X)(J:Gr0 K g M)(L:Clp a r l)(N:l.length<=1000)(hk:k<5){id:Id}(y:pP K id)(O:id.1<M.next)(Q:g.next<=id.1)(x:α)(hset:∀(t:Mem) (v:AV) (d:List AV),Bc K t P X d->Rk K z a t v (l++[x])->Bc K t P w (cH d k [v])) :
    ∃f,(∀{R:Type} (K:AV->Mem->Option R),(cK z bytes id (some (a x,1)) r M λv m=>bA 1 (.ptr b 0 k) v m (K v))=K (.sref id 0 0 (l.length+1) z true) f)/\Bk K f b P w/\GrP K (λj=>j=b) g f/\f.get id=some (.row ((l++[x]).flatMap a) 0 false)/\f.next=M.next/\∀d,g.get b=some (.row d 0 false)->f.get b=some (.row (cH d k [.sref id 0 0 (l.length+1) z true]) 0 false):=by
 have n:b≠id:=λh=>y.1 (by rw[<-h];exact i.1)
 obtain⟨d,C,c2,c3,c4,c5⟩:=i.ld;generalize p:M.new id (.row ((l++[x]).flatMap a) 0 false)=M1;have A:M1.next=M.next:=(by rw[<-p];rfl);have o:M1.get id=some (.row ((l++[x]).flatMap a) 0 false):=(by rw[<-p,Mem.dI,aF rfl]);have e:Gr0 K g M1:=(by rw[<-p];exact xhz J Q _);have Y:M1.get b=some (.row d 0 false):=(by rw[(e.2 b i.2.1 (λh=>h)).2 i.1];exact C);have Z:Rk K z a M1 (.sref id 0 0 (l.length+1) z true) (l++[x]):=.inr (.inr ⟨id,0,true,false,[],y,by rw[A];exact O,by rw[eT];rfl,by rw[hW];exact o,rfl⟩);have u:Bc K M1 P X d:=c2.gr e (λ_ h=>h.elim);obtain⟨f,e1,e2,D,E,e5⟩:=Bk.put i.1 (eZ i.2.1 e.1) Y (k:=k) (by omega) rfl rfl (hset M1 _ d u Z);refine⟨f,λK=>?_,e2,jY e.to (.inr rfl) D E,by rw[E id (Ne.symm n)];exact o,by rw[D,A],λW h=>by rw[C]at h;cases h;exact e5⟩;rw[L.app F H N x id M,p,e1]
def yI(x y:OPr):Bool:=decide (y.pt=x.pt)&&decide (y.a=x.a)&&decide (y.b=x.b)
def yH(x y:Lv10):Bool:=decide (y.pt=x.pt)&&decide (y.sc=x.sc)
def dt{α:Type}(q:α->Bool)(l:List α):decide (0<=idxQ q 0 l)=l.any q:=by
 rcases F6 q l 0 with ⟨h,b⟩|⟨i,h,d,e⟩
 .rw[h];have:l.any q=false:=(by rw[HX];intro x a;rw[b x a];simp);rw[this];rfl
 .rw[h];have:l.any q=true:=I3.mpr ⟨_,eU d,e⟩;rw[this];simp
def x4a(d:Nat){a:AV}{S:List OPr}(h:Sl OPr.c a S)(y:S.length<=1000)(x:OPr):∃i,aG (d+3) [] R4 [a,.clo pT [.aH x.c]] mem0=some (B (S.any (yI x)),i):=by
 have j:∃i,aG (d+2) [] Q8 [a,.clo pT [.aH x.c]] mem0=some (I (idxQ (yI x) 0 S),i):=by
  obtain⟨i,r⟩:=V1 OPr.len (by omega) (q:=yI x) h (by omega) (call:=aG (d+1)) (Z:=[]) (fv:=.clo pT [.aH x.c]) (λe _ m=>by
   show ∃i,aG (d+1) [] pT ([.agg e.c]++[.aH x.c]) m=_
   rw[iO,iX,yar]
   unfold pq aU UE
   obtain⟨M,-,g,-,w⟩:=mQ (x:=.agg e.c) (X3 (show e.c.all AV.one=true from rfl)) (m.next,0,2) ⟨m.hp,m.next+1⟩
   have g':M.get (m.next,0,2)=some (.row [I e.pt,I e.a,I e.b,I e.f] 0 false):=g
   have p:aE 0 (.aH x.c)=some (.aH [I x.pt,I x.a,I x.b,I x.f]):=rfl
   have t:aE 1 (.aH x.c)=some (.aH [I x.a,I x.b,I x.f]):=rfl
   have u:aE 2 (.aH x.c)=some (.aH [I x.b,I x.f]):=rfl
   simp only[w,cW,aC,bW,aQ g',bF,dE,p,t,u,B3,iD,dO]
   unfold yI
   by_cases n:e.pt=x.pt
   .by_cases o:e.a=x.a
    .simp[n,o,g']
    .simp[n,o,g']
   .simp[n]) (OK (aG (d+1)) [] 0) (λ_ _ _ _ _ _ _=>rfl) S 0 NN ⟨[],1⟩ 4 rfl (by rw[dB];omega)
  refine⟨i,?_⟩;rw[x9n];unfold nj aU SD xa;simp only[h.len BX,aC,mem0];exact r
 obtain⟨i,j⟩:=j;have l:∀m,fC (aG (d+2)) Q8 [a,.clo pT [.aH x.c]] m=some (I (idxQ (yI x) 0 S),m):=λm=>gj (by rw[dY,h.bD];rfl) j rfl
 rw[x9v];unfold ny aU SO;simp only[l,aC,sG,mem0];rw[<-dt];exact⟨_,rfl⟩
def xm3(i a b f:Int):dA tP [(0,1,I i),(1,1,I a),(2,1,I b),(3,1,I f)]=some (.agg [I i,I a,I b,I f]):=by kernel_rfl
def xmt:tP.length=4:=by kernel_rfl
def x2o{R:Type}(x:OPr)(id:Id)(m:Mem)(K:AV->Mem->Option R):cV tP [(0,4,.agg x.c)] 1 4 id m K=K (.aN x.c 1 true) m:=by rw[xa2];rfl
def W3(J:List Pn)(X:St10)(p a b:List UInt8)(f:Int):Int×St10:=
 let x:OPr:=⟨idxQ (nmQ Pn.nm ⟨p.toArray⟩) 0 J,idxQ (nmQ Scene.nm ⟨a.toArray⟩) 0 X.L,idxQ (nmQ Scene.nm ⟨b.toArray⟩) 0 X.L,f⟩
 if x.pt<0\/x.a<0\/x.b<0 then(6,X)else if x.b<=x.a then(9,X)else if X.S.any (yI x)=true then(28,X)else if wi f (-100000) 100000=false then(2,X)else(0,{X with S:=X.S++[x]})
def x62(d:Nat)(Z:FHs)(hK:∀j,K j->j.1<m.next)(y:[A,pa,ea].all aP=true)(hp:Sl Pn.c pa J)(Y:J.length<=1000){b:Id}(g:Bk K m b (SC E O A pa ea) X)(hL:X.L.length<=1000)(hS:X.S.length<=1000)(p a c:List UInt8)(f n:Int) :
    ∃N,aG (d+4) Z FA [.agg [Tx p,Tx a,Tx c,I f],.ptr b 0 0,I n] m=some (I (W3 J X p a c f).1,N)/\GrP K (λj=>j=b) m N/\Bk K N b (SC E O A pa ea) (W3 J X p a c f).2:=by
 rw[yas];unfold pu UF;obtain⟨Q,n1,g1,k1,hM1⟩:=mQ (x:=.agg [Tx p,Tx a,Tx c,I f]) rfl (m.next,0,3) ⟨m.hp,m.next+1⟩;have t:Gr0 K m Q:=jY (qA m) (.inl (bS _)) n1 k1;have g1':Q.get (m.next,0,3)=some (.row [Tx p,Tx a,Tx c,I f] 0 false):=g1;obtain⟨F,s,q,v,w,fl,r1,r2,r3,r4,r5,r6,r7,r8,r9⟩:=g.cells;have rb:∀{M:Mem},Gr0 K m M->M.get b=some (.row [.ptr F 0 0,s,q,v,w] 0 false):=λh=>by rw[(h.2 b g.2.1 (λh=>h)).2 g.1];exact r1
 have r2':=r2.gr t (λ_ h=>h.elim);have l5:aA true 5 (.ptr b 0 0) Q=some (.agg [.ptr F 0 0,s,q,v,w]):=(by rw[aQ (rb t)];rfl);have nb:cD (.ptr b 0 0)=some (.ptr b 0 0):=rfl;have cp:=λx=>xjy d y r2' hp Y x
 have cc:=λx=>gp d y r2' hL x
 unfold W3;generalize R:(⟨idxQ (nmQ Pn.nm ⟨p.toArray⟩) 0 J,idxQ (nmQ Scene.nm ⟨a.toArray⟩) 0 X.L,idxQ (nmQ Scene.nm ⟨c.toArray⟩) 0 X.L,f⟩:OPr)=x;have x1:idxQ (nmQ Pn.nm ⟨p.toArray⟩) 0 J=x.pt:=(by rw[<-R]);have x2:idxQ (nmQ Scene.nm ⟨a.toArray⟩) 0 X.L=x.a:=(by rw[<-R]);have x3:idxQ (nmQ Scene.nm ⟨c.toArray⟩) 0 X.L=x.b:=(by rw[<-R]);have x4:x.f=f:=(by rw[<-R]);obtain⟨l,n2,g2,k2,hM2⟩:=oL (z:=4) (cs:=tP) (x:=.agg [I x.pt,I x.a,I x.b,I f]) rfl rfl xmt (m.next,23,7) Q;have e:Gr0 K m l:=jY t (.inl (bS _)) n2 k2;have g2':l.get (m.next,23,7)=some (.row [I x.pt,I x.a,I x.b,I f] 0 false):=g2;have C:b.1<m.next:=g.2.1;have D:∀{i j:Nat},b≠(m.next,i,j):=λh=>by rw[h]at C;simp at C
 have a1:aZ (tR (.ptr b 0 0)) (some [],some [(m.next,23,7)])=true:=qI D;have a2:∀o,aZ (tR (.ptr (m.next,0,3) 0 o)) (some [],some [(m.next,23,7)])=true:=λo=>qI (λh=>by simp[Prod.ext_iff]at h)
 simp only[hM1,nb,aC,l5,cW,bW,aQ g1',bF,dR,dE,cp,cc,x1,x2,x3,xm3,hM2,a1,a2,iL,xV,bC];have r7':=r7.1.gr e (λj _ h=>h.elim);have lq:aA false 1 (.ptr b 0 (1+1)) l=some q:=(by rw[aQ (rb e)];rfl);simp only[aQ g2',bF,dE,aC,bV,dO];by_cases W:x.pt<0
 .simp only[W,bB,dQ,cE,cT,aC,cS,bC,aS,true_or,cI];exact⟨_,rfl,e.to,g.gr e (λ_ h=>h.elim) (λh=>h)⟩
 by_cases c2:x.a<0
 .simp only[W,c2,bB,bO,dQ,cE,cC,cT,aQ g2',bF,dR,dE,bV,aC,cS,bC,aS,true_or,or_true,cI];exact⟨_,rfl,e.to,g.gr e (λ_ h=>h.elim) (λh=>h)⟩
 by_cases c3:x.b<0
 .simp only[W,c2,c3,bB,bO,dQ,cC,cT,aQ g2',bF,dR,dE,bV,aC,cS,bC,aS,or_true,cI];exact⟨_,rfl,e.to,g.gr e (λ_ h=>h.elim) (λh=>h)⟩
 simp only[W,c2,c3,bO,dQ,cC,bC,cT,aQ g2',bF,dR,dE,bV,aC,cS,aT,or_self,cU,sG];by_cases P:x.b<=x.a
 .have c4':x.a ≥ x.b:=P;simp only[P,bB,aS,cI];exact⟨_,rfl,e.to,g.gr e (λ_ h=>h.elim) (λh=>h)⟩
 have c4':¬(x.a ≥ x.b):=P;obtain⟨q',q1,q2⟩:=r7'.frz OPr.len OPr.bD 4;obtain⟨mq,hcf⟩:=x4a (d+0) q2 hS x;have hcl:Go.Ix.frz l.get bR (.clo pT [.ptr (m.next,23,7) 0 0])=some (.clo pT [.aH x.c]):=(by have f2:Go.Ix.frz l.get 5 (.ptr (m.next,23,7) 0 0)=some (.aH x.c):=rQ (cs':=x.c) g2' (by rw[<-x4];rfl);show([AV.ptr (m.next,23,7) 0 0].mapM (Go.Ix.frz l.get 5)).map (AV.clo pT)=_;simp only[eO,gS,f2];rfl);have q1':Go.Ix.frz l.get bR q=some q':=q1;have hcf':fC (aG (d+3)) R4 [q,.clo pT [.ptr (m.next,23,7) 0 0]] l=some (B (X.S.any (yI x)),l):=
  xD (by simp only[eO,gS,q1',hcl];rfl) hcf rfl
 simp only[P,bO,aT,cU,lq,aC,hcf'];cases c5:X.S.any (yI x)with
 |true=>simp only[aS,cI];exact⟨_,rfl,e.to,g.gr e (λ_ h=>h.elim) (λh=>h)⟩
 |false=>
 have hsm:=λm=>KE (d+1) f (K:=100000) (by omega) m
 simp only[aT,fQ,cU,aQ g2',bF,dR,dE,aC,hsm,eG];cases c6:wi f (-100000) 100000 with
 |false=>simp only[cC,aS,cI];exact⟨_,rfl,e.to,g.gr e (λ_ h=>h.elim) (λh=>h)⟩
 |true=>
 obtain⟨r,M3,hr,u,n3,g3⟩:=x7y (d+2) r7';have gr4:Gr0 K m M3:=e.trans g3;obtain⟨fl2,H⟩:=SimO.row (g3.2 (m.next,23,7) (by rw[n2,n1];exact mD _) (λh=>h)).1 g2';have ldx:aA true 4 (.ptr (m.next,23,7) 0 0) M3=some (.agg x.c):=(by rw[aQ H,<-x4];rfl);have hN:(m.next,67,71).1<M3.next:=(by rw[n3,n2,n1];exact mD _);obtain⟨M4,hM4,hB4,hG4,-,-⟩:=LQ OPr.len (bytes:=32) (by omega) g gr4 hr hS (k:=2) (by omega) (id:=(m.next,67,71)) (uO hK (bS _) (by simp)) hN (bS _) x (λN v cs h1 h2=>h1.setS h2 (by simp));have hel:elems M3.get 4 (.aN x.c 1 true)=some (x.c,1):=rfl;have a3:aZ (tR (.ptr b 0 (1+1))) (some [],some [(m.next,66,70)])=true:=qI D;simp only[cE,aT,Bool.true_eq_false,cU,lq,aC,u,ldx,x2o,hel,hM4,a3,bC];exact⟨M4,rfl,hG4,hB4⟩
open Go.Proofs
def x39(d:Nat){a:AV}{S:List Lv10}(h:Sl Lv10.c a S)(t:S.length<=1000)(x:Lv10):∃b,aG (d+3) [] R5 [a,.clo pU [.aH x.c]] mem0=some (B (S.any (yH x)),b):=by
 have f:∃b,aG (d+2) [] Q9 [a,.clo pU [.aH x.c]] mem0=some (I (idxQ (yH x) 0 S),b):=by
  obtain⟨b,r⟩:=V1 Lv10.len (by omega) (q:=yH x) h (by omega) (call:=aG (d+1)) (Z:=[]) (fv:=.clo pU [.aH x.c]) (λe _ m=>by
   show ∃b,aG (d+1) [] pU ([.agg e.c]++[.aH x.c]) m=_
   rw[iO,iX,yaw]
   unfold py aU UL
   obtain⟨M,-,g,-,p⟩:=mQ (x:=.agg e.c) (X3 (show e.c.all AV.one=true from rfl)) (m.next,0,2) ⟨m.hp,m.next+1⟩
   have g':M.get (m.next,0,2)=some (.row [I e.e,I e.pt,I e.sc,I e.mv,I e.er] 0 false):=g
   have n:aE 1 (.aH x.c)=some (.aH [I x.pt,I x.sc,I x.mv,I x.er]):=rfl
   have o:aE 2 (.aH x.c)=some (.aH [I x.sc,I x.mv,I x.er]):=rfl
   simp only[p,cW,aC,bW,aQ g',bF,dR,dE,n,o,B3,iD,dO]
   unfold yH
   by_cases j:e.pt=x.pt
   .by_cases l:e.sc=x.sc
    .simp[j,l,g']
    .simp[j,l,g']
   .simp[j]) (OL (aG (d+1)) [] 0) (λ_ _ _ _ _ _ _=>rfl) S 0 NN ⟨[],1⟩ 4 rfl (by rw[dB];omega)
  refine⟨b,?_⟩;rw[x9o];unfold nk aU SE xb;simp only[h.len ZG,aC,mem0];exact r
 obtain⟨b,f⟩:=f;have i:∀m,fC (aG (d+2)) Q9 [a,.clo pU [.aH x.c]] m=some (I (idxQ (yH x) 0 S),m):=λm=>gj (by rw[dY,h.bD];rfl) f rfl
 rw[x9w];unfold nz aU SP;simp only[i,aC,sG,mem0];rw[<-dt];exact⟨_,rfl⟩
def xm5(n i a b f:Int):dA vM [(0,1,I n),(1,1,I i),(2,1,I a),(3,1,I b),(4,1,I f)]=some (.agg [I n,I i,I a,I b,I f]):=by kernel_rfl
def xa4:vM=[I 0,I 0,I 0,I 0,I 0]:=by kernel_rfl
def xmv:vM.length=5:=by rw[xa4];rfl
def x2p{R:Type}(x:Lv10)(id:Id)(m:Mem)(K:AV->Mem->Option R):cV vM [(0,5,.agg x.c)] 1 5 id m K=K (.aN x.c 1 true) m:=by rw[xa4];rfl
def W5(J:List Pn)(X:St10)(n:Int)(p s:List UInt8)(a b:Int):Int×St10:=
 let x:Lv10:=⟨n,idxQ (nmQ Pn.nm ⟨p.toArray⟩) 0 J,idxQ (nmQ Scene.nm ⟨s.toArray⟩) 0 X.L,a,b⟩
 if x.pt<0\/x.sc<0 then(6,X)else if(wi a (-1000000) 1000000&&wi b 0 1000000)=false then(2,X)else if X.V.any (yH x)=true then(28,X)else(0,{X with V:=X.V++[x]})
def x63(d:Nat)(Z:FHs)(hK:∀j,K j->j.1<m.next)(D:[A,pa,ea].all aP=true)(hp:Sl Pn.c pa J)(W:J.length<=1000){b:Id}(C:Bk K m b (SC E O A pa ea) X)(hL:X.L.length<=1000)(hS:X.V.length<=1000)(p a:List UInt8)(g l n:Int) :
    ∃Q,aG (d+4) Z FC [.agg [Tx p,Tx a,I g,I l],.ptr b 0 0,I n] m=some (I (W5 J X n p a g l).1,Q)/\GrP K (λj=>j=b) m Q/\Bk K Q b (SC E O A pa ea) (W5 J X n p a g l).2:=by
 rw[yax];unfold pz hJ UM;obtain⟨R,n1,g1,k1,hM1⟩:=mQ (x:=.agg [Tx p,Tx a,I g,I l]) rfl (m.next,0,3) ⟨m.hp,m.next+1⟩;have u:Gr0 K m R:=jY (qA m) (.inl (bS _)) n1 k1;have g1':R.get (m.next,0,3)=some (.row [Tx p,Tx a,I g,I l] 0 false):=g1;obtain⟨N,s,q,v,w,fl,r1,r2,r3,r4,r5,r6,r7,r8,r9⟩:=C.cells;have rb:∀{M:Mem},Gr0 K m M->M.get b=some (.row [.ptr N 0 0,s,q,v,w] 0 false):=λh=>by rw[(h.2 b C.2.1 (λh=>h)).2 C.1];exact r1
 have r2':=r2.gr u (λ_ h=>h.elim);have l5:aA true 5 (.ptr b 0 0) R=some (.agg [.ptr N 0 0,s,q,v,w]):=(by rw[aQ (rb u)];rfl);have nb:cD (.ptr b 0 0)=some (.ptr b 0 0):=rfl;have cp:=λx=>xjy d D r2' hp W x
 have cc:=λx=>gp d D r2' hL x
 unfold W5;generalize hx:(⟨n,idxQ (nmQ Pn.nm ⟨p.toArray⟩) 0 J,idxQ (nmQ Scene.nm ⟨a.toArray⟩) 0 X.L,g,l⟩:Lv10)=x;have x1:idxQ (nmQ Pn.nm ⟨p.toArray⟩) 0 J=x.pt:=(by rw[<-hx]);have x2:idxQ (nmQ Scene.nm ⟨a.toArray⟩) 0 X.L=x.sc:=(by rw[<-hx]);have x4:x.c=[I n,I x.pt,I x.sc,I g,I l]:=(by rw[<-hx];rfl);obtain⟨t,n2,g2,k2,hM2⟩:=oL (z:=5) (cs:=vM) (x:=.agg [I n,I x.pt,I x.sc,I g,I l]) rfl rfl xmv (m.next,20,7) R;have e:Gr0 K m t:=jY u (.inl (bS _)) n2 k2;have g2':t.get (m.next,20,7)=some (.row [I n,I x.pt,I x.sc,I g,I l] 0 false):=g2;have F:b.1<m.next:=C.2.1;have H:∀{i j:Nat},b≠(m.next,i,j):=λh=>by rw[h]at F;simp at F
 have a1:aZ (tR (.ptr b 0 0)) (some [],some [(m.next,20,7)])=true:=qI H;have a2:∀o,aZ (tR (.ptr (m.next,0,3) 0 o)) (some [],some [(m.next,20,7)])=true:=λo=>qI (λh=>by simp[Prod.ext_iff]at h)
 simp only[hM1,nb,aC,l5,cW,bW,aQ g1',bF,dR,dE,cp,cc,x1,x2,xm5,hM2,a1,a2,iL,xV,bC];have r8':=r8.gr e (λj _ h=>h.elim);have lq:aA false 1 (.ptr b 0 (1+2)) t=some v:=(by rw[aQ (rb e)];rfl);have f:=C.gr e (λ_ h=>h.elim) (λh=>h);simp only[aQ g2',bF,dR,dE,aC,bV,dO,fI];by_cases c1:x.pt<0
 .simp only[c1,bB,dQ,cE,cT,aC,cS,bC,aS,true_or,cI];exact⟨_,rfl,e.to,f⟩
 by_cases c2:x.sc<0
 .simp only[c1,c2,bB,bO,dQ,cC,cT,aQ g2',bF,dR,dE,bV,aC,cS,bC,aS,or_true,cI];exact⟨_,rfl,e.to,f⟩
 have Y:=λn m=>KE (d+1) n (K:=1000000) (by omega) m
 have hwi:=λa b c m=>tU (d+2) a b c m
 simp only[c1,c2,bO,dQ,cC,bC,cT,aQ g2',bF,dR,dE,bV,aC,cS,aT,or_self,cU,Y,eG];cases c3:wi g (-1000000) 1000000 with
 |false=>simp only[cC,cE,cT,aC,bC,aS,qM,cI];exact⟨_,rfl,e.to,f⟩
 |true=>
 simp only[cE,cC,bC,cT,aQ g2',bF,dR,dE,aC,hwi,eG,gW];cases c4:wi l 0 1000000 with
 |false=>simp only[cC,aS,cI];exact⟨_,rfl,e.to,f⟩
 |true=>
 obtain⟨q',q1,q2⟩:=r8'.frz Lv10.len Lv10.bD 4;obtain⟨mq,hcf⟩:=x39 (d+0) q2 hS x;have hcl:Go.Ix.frz t.get bR (.clo pU [.ptr (m.next,20,7) 0 0])=some (.clo pU [.aH x.c]):=(by have f2:Go.Ix.frz t.get 5 (.ptr (m.next,20,7) 0 0)=some (.aH x.c):=rQ (cs':=x.c) g2' (by rw[x4];rfl);show([AV.ptr (m.next,20,7) 0 0].mapM (Go.Ix.frz t.get 5)).map (AV.clo pU)=_;simp only[eO,gS,f2];rfl);have q1':Go.Ix.frz t.get bR v=some q':=q1;have hcf':fC (aG (d+3)) R5 [v,.clo pU [.ptr (m.next,20,7) 0 0]] t=some (B (X.V.any (yH x)),t):=
  xD (by simp only[eO,gS,q1',hcl];rfl) hcf rfl
 simp only[cE,aT,Bool.true_eq_false,cU,lq,aC,hcf'];cases c5:X.V.any (yH x)with
 |true=>simp only[aS,cI];exact⟨_,rfl,e.to,f⟩
 |false=>
 obtain⟨r,M3,hr,y,n3,g3⟩:=x7v (d+2) r8';have gr4:Gr0 K m M3:=e.trans g3;obtain⟨fl2,P⟩:=SimO.row (g3.2 (m.next,20,7) (by rw[n2,n1];exact mD _) (λh=>h)).1 g2';have ldx:aA true 5 (.ptr (m.next,20,7) 0 0) M3=some (.agg x.c):=(by rw[aQ P,x4];rfl);have hN:(m.next,59,63).1<M3.next:=(by rw[n3,n2,n1];exact mD _);obtain⟨M4,hM4,hB4,hG4,-,-⟩:=LQ Lv10.len (bytes:=40) (by omega) C gr4 hr hS (k:=3) (by omega) (id:=(m.next,59,63)) (uO hK (bS _) (by simp)) hN (bS _) x (λQ v cs h1 h2=>h1.setV h2);have hel:elems M3.get 5 (.aN x.c 1 true)=some (x.c,1):=rfl;have a3:aZ (tR (.ptr b 0 (1+2))) (some [],some [(m.next,58,62)])=true:=qI H;simp only[aT,fQ,cU,aC,y,ldx,x2p,hel,hM4,a3,bC];exact⟨M4,rfl,hG4,hB4⟩
end Go.Ix
