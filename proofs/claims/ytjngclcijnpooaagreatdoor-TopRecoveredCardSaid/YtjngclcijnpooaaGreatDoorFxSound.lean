import Derived.Test.YtjngclcijnpooaaGreatDoorFxOps
set_option linter.all false
namespace Go.Ix
variable{P:Program}{pol:Pol}{call:aJ}{R:Type}
def xrx(h:Hp)(i j:Id):fK (CK h i) j=shut [i] (fK h) j:=by
 unfold CK shut;by_cases a:j=i
 .subst a;rw[aF (qJ.mpr rfl)];cases e:fK h j with
  |none=>simp[e]
  |some o=>
   cases o with
   |map b=>simp[e]
   |lp d=>simp[e]
   |bld t e l=>simp[e]
   |row g v f=>
    cases f with
    |true=>simp[e]
    |false=>simp[MO]
 .rw[aB (by simpa using a)];split
  .rw[MO,aB a]
  .rfl
def N2:∀(a:List Id) (h:Hp),fK (mJ a h)=shut a (fK h)
 |[],h=>by funext i;simp[mJ,shut]
 |i::r,h=>by
  funext j;rw[mJ,N2 r];have b:=xrx h i j;unfold shut at b ⊢;rw[b];by_cases g:j=i
  .subst g;simp only[cI,dV,true_or];cases e:fK h j with
   |none=>simp
   |some o=>
    cases o with
    |map m=>simp
    |lp d=>simp
    |bld t e l=>simp
    |row n v f=>simp
  .simp[g]
def dd(d:Hp):∀(a:List Id) (h:Hp),(∀i∈a,∃o,fK d i=some o)->∀j,fK (V2 d a h) j=if j∈a then fK d j else fK h j
 |[],h,_,j=>by simp[V2]
 |i::r,h,g,j=>by
  obtain⟨o,f⟩:=g i (eS ..);simp only[V2,f];rw[dd d r _ λx l=>g x (dU _ l)];simp only[dV,MO];by_cases e:j∈r
  .simp[e]
  .by_cases b:j=i
   .subst b;simp[e,f]
   .simp[e,b]
def xs7{h:Hp}{u:Nat}(a:∀e∈h,e.1≠u):lD h u=[]:=by
 induction h with
 |nil=>rfl
 |cons e r d=>obtain⟨v,l⟩:=e;simp only[lD];have:Nat.beq v u=false:=(by rw[kV];intro x;exact a _ (eS ..) (gD x));rw[this];exact d λe b=>a e (dU _ b)
def LH{p:Nat×List (Nat×Nat×Ob)->Bool}{u:Nat}{t:Hp}(a:∀e∈t,e.1≠u):∀{h:Hp},(∀l,p (u,l)=true)->lD (h.filter p++t) u=lD h u
 |[],_=>xs7 a
 |(v,l)::r,b=>by
  simp only[List.filter_cons];by_cases f:v=u
  .subst f;rw[aF (b l)];simp[lD]
  .have d:Nat.beq v u=false:=(by rw[kV];intro x;exact f (gD x));split
   .simp only[iO,lD,d,cond_false];exact LH a b
   .simp only[lD,d,cond_false];exact LH a b
def xd5{u:Nat}{t:Hp}:∀{h:Hp},(∀e∈h,e.1≠u)->lD (h++t) u=lD t u
 |[],_=>rfl
 |(v,l)::r,a=>by have d:Nat.beq v u=false:=(by rw[kV];intro x;exact a _ (eS ..) (gD x));simp only[iO,lD,d,cond_false];exact xd5 λe b=>a e (dU _ b)
def xg6(d h:Hp)(n:Nat):fK ((d.filter λe=>Nat.ble n e.1)++(h.filter λe=>Nat.blt e.1 n))=λi=>if n<=i.1 then fK d i else fK h i:=by
 funext i;unfold fK;by_cases b:n<=i.1
 .rw[aF b,LH]
  .intro e a;rw[jE]at a;have:=xL a.2;omega
  .intro l;exact Nat.ble_eq_true_of_le b
 .rw[aB b,xd5]
  .have:lD (List.filter (λe=>e.fst.blt n) h++[]) i.1=lD h i.1:=LH (λe a=>by cases a) (λl=>Nat.ble_eq_true_of_le (by omega));rw[hW]at this;rw[this]
  .intro e a;rw[jE]at a;have:=xL a.2;omega
def Mono(A:Nat->Hs):Prop:=∀n m,n<=m->HLe (A n) (A m)
def Under(Z:FHs)(A:Nat->Hs):Prop:=∀id h,oF Z id=some h->∀a m b,h a m=some b->∃n g,pA (A n) id=some g/\g a m.st=some b.st
def iy:Nat->Hs:=λ_=>[]
def Mono.nil:Mono iy:=λ_ _ _=>trivial
def Under.nil:Under [] iy:=λ_ _ h=>by simp[oF]at h
def Under.shift{Z:FHs}{A:Nat->Hs}(b:Mono A)(h:Under Z A):Under Z λn=>A (n+1):=by intro id g d a m f e;obtain⟨n,r,i,j⟩:=h id g d a m f e;obtain⟨l,o,p⟩:=dv (b n (n+1) (by omega)) i;exact⟨n,l,o,p _ _ _ j⟩
def xU(P:Program)(pol:Pol)(b:aJ):Prop:=∀Z A f a m r d,Mono A->Under Z A->b Z f a m=some (r,d)->∃n,gO P pol n (A n) f a m.st=some (r,d.st)
def gh{n m:Nat}(h:n<=m):s9 (gO P pol n) (gO P pol m):=xj9 (rN h)
def xh5(E:xU P pol call){Z:FHs}{A:Nat->Hs}(Q:Mono A)(N:Under Z A){l:Nat}{J:AV}{p:List AV}{m O:Mem}{r:AV}(h:fD call Z l J p m=some (r,O)):∃n,gK (gO P pol n) (A n) l J p m.st=some (r,O.st):=by
 cases J with
 |clo f t=>
  simp only[fD]at h;split at h
  .unfold aI at h;split at h
   .rename_i x y;split at h
    .rename_i r0 u C;rw[cM]at h;obtain⟨r1,H,M⟩:=h;cases M;obtain⟨n,w⟩:=E _ _ _ _ _ _ _ Mono.nil Under.nil C;refine⟨n,?_⟩;have e1':(p++t).mapM (frz m.st.aD bR)=some x:=y;have hn':gO P pol n [] f x qE=some (r0,u.st):=w;have h1':frz u.st.aD bR r0=some r:=H;simp only[gK,e1',hn',h1',Option.map_some]
     rw[show(Mem.mk (mJ ((p++t).flatMap (reach m.get bR)) m.hp) m.next).st={m.st with aD:=shut ((p++t).flatMap (reach m.st.aD bR)) m.st.aD}from by
      simp only[Mem.st]
      congr 1
      exact N2 _ _]
    .cases h
   .cases h
  .unfold fC at h;split at h
   .rename_i x y;split at h
    .rename_i r0 u C;split at h
     .rename_i F;cases h;obtain⟨n,w⟩:=E _ _ _ _ _ _ _ Mono.nil Under.nil C;refine⟨n,?_⟩;have e1':(p++t).mapM (frz m.st.aD bR)=some x:=y;have hn':gO P pol n [] f x qE=some (r,u.st):=w;simp only[gK,e1',hn',aF F]
     .cases h
    .cases h
   .cases h
  .unfold uI at h;split at h
   .rename_i x y;split at h
    .rename_i r0 u C;split at h
     .rename_i F;cases h;obtain⟨n,w⟩:=E _ _ _ _ _ _ _ Mono.nil Under.nil C;refine⟨n,?_⟩;have e1':(p++t).mapM (frz m.st.aD bR)=some x:=y;have hn':gO P pol n [] f x {aD:=λ_=>none,next:=m.next}=some (r,u.st):=w;simp only[gK];rw[e1'];simp only
      rw[show({aD:=λ_=>none,next:=m.st.next}:St)={aD:=λ_=>none,next:=m.next}from rfl,hn'];simp only
      split;case isFalse hno=>exact absurd F hno
      have X:∀i∈reach u.get bR r,∃o,fK u.hp i=some o:=by
       intro j R;rw[cR]at F;have:=dG.mp F.2 j R;rw[cR]at this;revert this;show _/\(match fK u.hp j with|some (.row Y _ false)=>Y.all pZ|_=>false)=true->_;rintro⟨-,D⟩;cases e:fK u.hp j with
       |none=>rw[e]at D;cases D
       |some o=>exact⟨o,rfl⟩
      congr 2;simp only[Mem.st,Mem.get];congr 1;funext i;exact(dd _ _ _ X i).symm
     .cases h
    .cases h
   .cases h
  .unfold sH at h;split at h
   .rename_i y;split at h
    .rename_i r0 u C;cases h;obtain⟨n,w⟩:=E _ _ _ _ _ _ _ Mono.nil Under.nil C;refine⟨n,?_⟩;have hn':gO P pol n [] f (p++t) {aD:=λ_=>none,next:=m.next}=some (r,u.st):=w;simp only[gK,aF y];rw[show({aD:=λ_=>none,next:=m.st.next}:St)={aD:=λ_=>none,next:=m.next}from rfl,hn'];simp only[Mem.st];congr 2;exact congrArg (St.mk · _) (xg6 u.hp m.hp m.next).symm
    .cases h
   .cases h
  .rename_i W K D H;obtain⟨n,w⟩:=E _ _ _ _ _ _ _ Q N h;refine⟨n,?_⟩;have L:∀l:Nat,(l=0->False)->(l=3->False)->(l=4->False)->(l=1->False)->gK (gO P pol n) (A n) l (.clo f t) p m.st=gO P pol n (A n) f (p++t) m.st:=(by intro l a b c d;unfold gK;split<;>first|rfl|(exact(a rfl).elim)|(exact(b rfl).elim)|(exact(c rfl).elim)|(exact(d rfl).elim)|skip;split<;>first|rfl|(exact(a rfl).elim)|(exact(b rfl).elim)|(exact(c rfl).elim)|(exact(d rfl).elim)|simp_all;all_goals simp_all);rw[L l W K D H];exact w
 |yld id=>
  simp only[fD]at h;split at h
  .rename_i g e;rw[cM]at h;obtain⟨m1,H,M⟩:=h;cases M;obtain⟨n,g',K,D⟩:=N _ _ e _ _ _ H;exact⟨n,by simp only[gK,K,D,Option.map_some];rfl⟩
  .cases h
 |_=>simp[fD]at h
def x5f(i:xU P pol call){Z:FHs}{A:Nat->Hs}(j:Mono A)(l:Under Z A){u Y a:Nat}{f:AV}{b:List AV}{m g:Mem}{r:AV}(h:ef call u Y Z a f b m=some (r,g)):∃n,oC (gO P pol n) u Y (A n) a f b m.st=some (r,g.st):=by
 unfold ef at h;cases d:Nat.beq a 9 with
 |true=>have e:=gD d;subst e;simp only[d,cond_true]at h;cases h
 |false=>simp only[d,cond_false]at h;obtain⟨n,o⟩:=xh5 i j l h;refine⟨n,?_⟩;unfold oC;rw[aB (λe=>by rw[e]at d;simp at d)];exact o
def FCtx.c(c:FCtx)(Z:Hs):Ctx:={f:=c.f,u:=c.u,nt:=c.nt,hs:=Z}
def eg{a:Array Oper}{o:Oper}{b:Nat->AV}:nS a o b=KD a o.guard b:=by
 unfold nS KD;cases o.guard with
 |none=>rfl
 |some g=>
  obtain⟨j,w⟩:=g;simp only
  cases(a[j]?).bind (·.dst)with
  |none=>rfl
  |some t=>simp only[sW];rfl
def ey{c:FCtx}{Z:Hs}{a:Option Tmp}{v:AV}{s:Fs}{k:Fs->Option R}{r:R}(h:MT c.nt a v s k=some r):∃b,put (c.c Z) a v s.s=some b.s/\k b=some r/\b.fc=s.fc/\b.m=s.m:=by
 unfold MT at h;split at h
 .rename_i d;cases e:Nat.blt d c.nt with
  |false=>rw[e]at h;cases h
  |true=>rw[e]at h;exact⟨_,by simp only[put];rw[aF (show d<(c.c Z).nt from xL e)];rfl,h,rfl,rfl⟩
 .exact⟨s,rfl,h,rfl,rfl⟩
def xif(X:xU P pol call){c:FCtx}{A:Nat->Hs}(Y:Mono A)(Z:Under c.hs A){C:Array Oper}{i:Nat}{o:Oper}(M:C[i]?=some o){s:Fs}{k:AV->Mem->Option R}{r:R}(h:jO P pol call {c with fc:=s.fc} (c.u,s.fc+i,o.dst.getD 0) o s.sl s.m k=some r)(N:nS C o s.sl=true) :
    ∃v y,k v y=some r/\∃n,∀F,put (c.c (A n)) o.dst v {s with m:=y}.s=some F->jN P pol (gO P pol n) (c.c (A n)) C i s.s=some F:=by
 by_cases E:fV o=true
 .obtain⟨x,L,w,pos,g,j⟩:=o;cases L with
  |call cl=>
   obtain⟨l,a,b⟩:=cl;cases l with
   |value Q=>
    simp only[jO]at h;rw[pE]at h;obtain⟨⟨v,y⟩,D,J⟩:=h;obtain⟨n,E⟩:=x5f X Y Z D;refine⟨v,y,J,n,λF H=>?_⟩;unfold jN;rw[M];simp only
    have hw':nS C {dst:=x,op:=Op.call {callee:=Callee.value Q,args:=a,argTypes:=b},type:=w,pos:=pos,after:=g,guard:=j} s.s.sl=true:=N;rw[aF hw'];have hn':oC (gO P pol n) (c.c (A n)).u s.s.fc (c.c (A n)).hs (nm (pol (c.c (A n)).f (x.getD 0))) (ev s.s.sl Q) (a.toList.map (ev s.s.sl)) s.s.st=some (v,y.st):=E;rw[hn'];exact H
   |_=>simp[fV]at E
  |_=>simp[fV]at E
 .have hn':fV o=false:=(by simpa using E);by_cases W:∃rv d a t,o.op=.call ⟨.invoke rv d,a,t⟩
  .obtain⟨rv,d,a,t,K⟩:=W;obtain⟨x,L,w,pos,g,j⟩:=o;simp only at K;subst K;simp only[jO,V6]at h;rw[pE]at h;obtain⟨⟨v,y⟩,D,J⟩:=h;rw[pE]at D;obtain⟨p,H,D⟩:=D;obtain⟨n,E⟩:=xh5 X Y Z D;refine⟨v,y,J,n,λF O=>?_⟩;unfold jN;rw[M];simp only
   have hw':nS C {dst:=x,op:=Op.call {callee:=Callee.invoke rv d,args:=a,argTypes:=t},type:=w,pos:=pos,after:=g,guard:=j} s.s.sl=true:=N;rw[aF hw'];have hn':gK (gO P pol n) (c.c (A n)).hs (nm (pol (c.c (A n)).f (x.getD 0))) (.clo p.1 []) (p.2::a.toList.map (ev s.s.sl)) s.s.st=some (v,y.st):=E;have hp':pY P (ev s.s.sl rv) d=some p:=H;simp only[hp',hn'];exact O
  obtain⟨v,y,D,J,h3⟩:=x5e hn' (λrv d a t e=>W ⟨rv,d,a,t,e⟩) h;refine⟨v,y,h3,0,λF H=>?_⟩;unfold jN;rw[M];simp only
  have hw':nS C o s.s.sl=true:=N;rw[aF hw'];have h1':aO P ((c.c (A 0)).u,s.s.fc+i,o.dst.getD 0) o s.s.sl s.s.st.aD=some (v,y.get):=D;have hp':put (c.c (A 0)) o.dst v {s.s with st:={s.s.st with aD:=y.get}}=some F:=(by have:({s with m:=y}:Fs).s={s.s with st:={s.s.st with aD:=y.get}}:=(by simp only[Fs.s,Mem.st,J]);rw[<-this];exact H);split
  .rename_i Q a t e;have:fV o=true:=(by simp only[fV,e]);rw[this]at hn';cases hn'
  .rename_i rv d a t e;exact absurd ⟨rv,d,a,t,e⟩ W
  .rw[h1'];exact hp'
def x5h(x:xU P pol call){c:FCtx}{A:Nat->Hs}(y:Mono A)(C:Under c.hs A){b:Array Oper}{i:Nat}{s:Fs}{k:Fs->Option R}{r:R}(h:eb P pol call c b i s k=some r):∃a,k a=some r/\a.fc=s.fc/\∃n,jN P pol (gO P pol n) (c.c (A n)) b i s.s=some a.s:=by
 unfold eb at h;split at h
 .rename_i e;exact⟨s,h,rfl,0,by unfold jN;rw[e]⟩
 .rename_i o e;split at h
  .rename_i j;obtain⟨v,D,d,n,l⟩:=xif x y C e h (by rw[eg,j];rfl);obtain⟨a,t,u,f,m⟩:=ey (Z:=A n) d;exact⟨a,u,f,n,l _ t⟩
  .rename_i g j;rw[pE]at h;obtain⟨⟨v,D⟩,d,l⟩:=h;cases p:KD b (some g) s.sl with
   |true=>rw[p,cond_true]at d;obtain⟨F,H,t,n,u⟩:=xif x y C e d (by rw[eg,j];exact p);cases t;obtain⟨a,f,m,w,E⟩:=ey (Z:=A n) l;exact⟨a,m,w,n,u _ f⟩
   |false=>
    rw[p,cond_false]at d;cases d;obtain⟨a,f,m,w,E⟩:=ey (Z:=A 0) l;refine⟨a,m,w,0,?_⟩;unfold jN;rw[e];simp only
    rw[aB (by rw[show s.s.sl=s.sl from rfl,eg,j,p];simp)];exact f
def xic(g:xU P pol call){c:FCtx}{A:Nat->Hs}(e:Mono A)(j:Under c.hs A){d:Array Oper}:∀{L:List Nat} {s:Fs} {k:Fs->Option R} {r:R},
    ec P pol call c d L s k=some r->∃f,k f=some r/\f.fc=s.fc/\∃n,jB P pol (gO P pol n) (c.c (A n)) d L s.s=some f.s
 |[],s,k,r,h=>⟨s,h,rfl,0,rfl⟩
 |i::L,s,k,r,h=>by obtain⟨o,p,t,a,u⟩:=x5h g e j h;obtain⟨w,x,y,b,C⟩:=xic g e j p;refine⟨w,x,y.trans t,max a b,?_⟩;have l:=xcz (gh (P:=P) (pol:=pol) (Nat.le_max_left a b)) (e a (max a b) (Nat.le_max_left ..)) u;have m:=ai (gh (P:=P) (pol:=pol) (Nat.le_max_right a b)) (e b (max a b) (Nat.le_max_right ..)) C;simp only[jB];have q1':jN P pol (gO P pol (max a b)) (c.c (A (max a b))) d i s.s=some o.s:=l;rw[q1'];exact m
def ZJ{d:Id}{o:Oper}{i:Nat->AV}:z6 d o i=eC d o i:=by
 obtain⟨m,n,j,pos,g,h⟩:=o;unfold z6;cases n with
 |load t a=>rfl
 |store t a x=>rfl
 |slice t x r u w=>rfl
 |lookup t x ix ok=>rfl
 |call p=>
  obtain⟨e,l,b⟩:=p;simp only
  split
  .rename_i s x f;simp only[eC,f];rfl
  .rename_i s x f;simp only[eC,f];rfl
  .rfl
 |_=>rfl
def bz{b:Nat}{o:Oper}{g:Nat->AV}:U4 b o g=gZ b o g:=by
 obtain⟨j,l,h,pos,e,f⟩:=o;cases l with
 |call m=>
  obtain⟨a,i,d⟩:=m;cases a with
  |value n=>rfl
  |_=>rfl
 |_=>rfl
def x19{mode:Nat}{o:Oper}{sl:Nat->AV}:gZ mode o sl<=2:=by
 rw[<-bz];unfold U4 mkD cY;split
 .split
  .split
   .split
    .omega
    .split<;>omega
   .omega
  .omega
 .omega
def xj4{a:Nat}{b:Option Nat}{f:Id}{x y:Oper}{g:Nat->AV}(l:fV y=false)(h:dJ b (z6 f y g) (U4 a x g)=true):tF a b f x y g=true:=by
 unfold tF;rw[ZJ,bz]at h;rw[l];simp only[cC,gW];unfold dJ at h;split at h
 .rename_i r o e;rw[e];simp only
  rw[cR]at h ⊢;refine⟨?_,?_⟩
  .have j:=h.1;cases b with
   |none=>rfl
   |some n=>simp only at j ⊢;rw[dG]at j ⊢;intro i m;exact eX (xL (j i m))
  .have d:=h.2;rw[lW,cR]at d ⊢;rcases d with d|⟨d,h3⟩
   .exact Or.inl (by rw[gD d];rfl)
   .exact Or.inr ⟨by rw[gD d];rfl,h3⟩
 .cases h
def xzc{c:FCtx}{Z:Hs}{Y a:Nat}{d:Array Oper}{i j:Nat}{l:Nat->AV}(h:LX pol c.f c.u Y a d i j l=true):pairOK pol (c.c Z) Y a d i j l=true:=by
 unfold LX at h;unfold pairOK;split at h
 .rename_i x y m n;rw[m,n];simp only
  rw[cR]at h ⊢;refine⟨h.1,?_⟩;rw[lW];right;have b:=h.2;split at b
  .rename_i e;rw[aF e];rw[cR]at b;exact xj4 (by simpa using b.1) b.2
  .rename_i e;rw[aB e];split at b
   .rename_i g;rw[aF g];exact xj4 (by simpa using e) b
   .rename_i g;rw[aB g];rw[ZJ,ZJ]at b;exact b
 .cases h
def xrk{c:FCtx}{Z:Hs}{Y a:Nat}{b:Array Oper}{i j:Nat}{d:Nat->AV}(h:N0 pol c.f b i j=true):pairOK pol (c.c Z) Y a b i j d=true:=by
 unfold N0 at h;unfold pairOK;split at h
 .rename_i x y e g;rw[e,g];simp only
  rw[cR]at h ⊢;refine⟨h.1,?_⟩;rw[lW];exact Or.inl h.2
 .cases h
def xqy{e:Op}(h:kM e=true):wT e=true:=by
 cases e with
 |call c=>
  obtain⟨a,f,d⟩:=c;cases a with
  |builtin b=>cases b<;>simp[kM]at h<;>rfl
  |_=>simp[kM]at h
 |_=>first|(simp[kM]at h;done)|rfl
def xc5{f:Nat}{a:Array Oper}{i:Nat}{x:Oper}{y:Op}(e:a[i]?=some x)(h:CF pol f a i=true)(b:kM y=true):uC (pol f (x.dst.getD 0)) x y=true:=by unfold CF at h;rw[e]at h;simp only at h;unfold uC;rw[cR]at h ⊢;refine⟨h.1,?_⟩;have j:x5c y=true:=b;have g:=xqy b;rw[g];have d:=h.2;simp only[lW,cR,gW,tn]at d ⊢;exact .inr d
def CB{e:Id}{o:Oper}{l:Nat->AV}(h:kM o.op=true):eC e o l=(some [],some []):=by
 obtain⟨m,n,i,pos,f,g⟩:=o;cases n with
 |call p=>
  obtain⟨a,j,d⟩:=p;cases a with
  |builtin b=>cases b<;>first|rfl|(simp[kM]at h)
  |_=>simp[kM]at h
 |_=>first|rfl|(simp[kM]at h)
def xci{id0:Id}{o:Oper}{sl:Nat->AV}(h:KI o.op=true):∃r,eC id0 o sl=(some r,some []):=by
 unfold KI at h;rw[lW]at h;rcases h with h|h
 .exact⟨[],CB h⟩
 .obtain⟨f,g,e,pos,b,d⟩:=o;cases g with
  |load t a=>simp only[eC];split<;>exact⟨_,rfl⟩
  |slice t x i j l=>simp only[eC];split<;>exact⟨_,rfl⟩
  |lookup t x ix ok=>simp only[eC];split<;>exact⟨_,rfl⟩
  |_=>simp at h
def xre{c:FCtx}{Z:Hs}{Y m:Nat}{g:Array Oper}{i j:Nat}{a:Nat->AV}(h:CE g i j=true)(t:∀x y,g[i]?=some x->g[j]?=some y->(fV x=true->kM y.op=true->1<=gZ (nm (pol c.f (x.dst.getD 0))) x a)/\(fV y=true->kM x.op=true->1<=gZ (nm (pol c.f (y.dst.getD 0))) y a)) :
    pairOK pol (c.c Z) Y m g i j a=true:=by
 unfold CE at h;unfold pairOK;split at h
 .rename_i x y C D;obtain⟨w,A⟩:=t x y C D;rw[C,D];simp only
  rw[cR]at h ⊢;refine⟨h.1,?_⟩;rw[lW];right;have b:∀{mode:Nat} {x:Oper},1<=gZ mode x a->(gZ mode x a == 2||(gZ mode x a == 1&&([]:List Id).isEmpty))=true:=(by intro mode x M;have:=x19 (mode:=mode) (o:=x) (sl:=a);have:gZ mode x a=1\/gZ mode x a=2:=(by omega);rcases this with e|e<;>rw[e]<;>rfl);have l:=h.2;rw[lW]at l;rcases l with l|l
  .rw[cR,cR]at l;obtain⟨⟨r,J⟩,d⟩:=l;rw[aB (by simpa using r),aB (by simpa using J)];rw[lW,lW,cR]at d;rcases d with (d|d)|⟨d,n⟩
   .rw[CB d];rfl
   .rw[CB d];unfold aZ;split<;>simp_all
   .obtain⟨P,K⟩:=xci (id0:=((c.c Z).u,Y+i,x.dst.getD 0)) (sl:=a) d;obtain⟨Q,L⟩:=xci (id0:=((c.c Z).u,Y+j,y.dst.getD 0)) (sl:=a) n;rw[K,L];unfold aZ;split
    .rfl
    .rfl
    .rename_i E F;cases E;cases F;simp[jP]
    .rename_i N O H;exact(H _ _ _ _ rfl rfl).elim
  .unfold xfl at l;rw[lW,cR,cR,cR,cR]at l;rcases l with ⟨⟨d,n⟩,p⟩|⟨⟨d,n⟩,p⟩
   .rw[aF d];unfold tF;rw[n,CB p];simp only[gW,hW,nP];exact b (w d p)
   .have r:fV x=false:=(by simpa using n);rw[aB (by rw[r];simp),aF d];unfold tF;rw[r,CB p];simp only[cC,gW];exact b (A d p)
 .cases h
def cm{f:Nat}{b:Array Oper}{i:Nat->AV}:∀{l:List Nat},F1 pol f b i l=true->∀j∈l,∃o,b[j]?=some o/\1<=gZ (nm (pol f (o.dst.getD 0))) o i
 |[],_,j,d=>by cases d
 |a::l,h,j,d=>by
  simp only[F1,cR]at h;rcases dV.mp d with rfl|d
  .have g:=h.1;split at g
   .rename_i o e;rw[bz]at g;exact⟨o,e,xL g⟩
   .cases g
  .exact cm h.2 j d
def xi0{f u Y a:Nat}{b:Array Oper}{e:Nat->AV}:∀{l:List (Nat×Nat)},xA pol f u Y a b e l=true->∀p∈l,LX pol f u Y a b p.1 p.2 e=true
 |[],_,p,d=>by cases d
 |(i,j)::l,h,p,d=>by
  simp only[xA,cR]at h;rcases dV.mp d with rfl|d
  .exact h.1
  .exact xi0 h.2 p d
def x57{c:FCtx}{Z:Hs}{Y g:Nat}{d:Array Oper}{K:Nat->AV}(C:KS P d=true)(h2:F1 pol c.f d K (GG pol c.f d)=true)(h3:xA pol c.f c.u Y g d K (W1 pol c.f d)=true) :
    H3 P pol (c.c Z) Y g d K=true:=by
 unfold H3;unfold KS at C;simp only at C ⊢;rw[dG]at C ⊢;intro j J;have t:=C j J;rw[cR,cR]at t ⊢;refine⟨t.1,?_⟩;have h4:=t.2;rw[dG]at h4 ⊢;intro i L;rw[cR];refine⟨h4 i L,?_⟩;rw[lW];by_cases H:((vF d).getD j []).contains i=true
 .exact Or.inl H
 .right;by_cases l:N0 pol c.f d i j=true
  .exact xrk l
  by_cases w:CE d i j=true
  .refine xre w λx y m n=>?_
   have D:x.apart d y=true:=(by unfold CE at w;rw[m,n]at w;simp only[cR]at w;exact w.1);have N:kM y.op=true->CF pol c.f d i=false:=λp=>by rw[kV];intro M;apply l;unfold N0;rw[m,n];simp only[D,xc5 m M p,PC,iL]
   have O:kM x.op=true->CF pol c.f d j=false:=λr=>by rw[kV];intro M;apply l;unfold N0;rw[m,n];simp only[D,xc5 n M r,tn,iL]
   have hij:i<j:=iY.mp L;have hjn:j<d.size:=iY.mp J;have E:((vF d).getD i []).contains j=false:=(by have:=C i (iY.mpr (by omega));rw[cR,cR]at this;have h5:=this.1.2;rw[dG]at h5;rw[kV];intro hc;have:=h5 j (jp.mp hc);have:=wA this;omega);have hn:∀o,fV o=true->kM o.op=true->False:=by
    intro o a b;obtain⟨dst,op,type,pos,W,X⟩:=o;cases op with
    |call cl=>obtain⟨h,args,A⟩:=cl;cases h<;>simp[fV,kM]at a b
    |_=>simp[fV]at a
   refine⟨λr p=>?_,λp r=>?_⟩
   .obtain⟨o,F,e4⟩:=cm h2 i (by
     unfold GG
     rw[jE]
     refine⟨?_,by rw[N p];rfl⟩
     unfold ck
     simp only[jE,iY]
     refine⟨by omega,?_⟩
     rw[cR,m]
     refine⟨r,?_⟩
     rw[I3]
     refine⟨j,J,?_⟩
     rw[n]
     have Q:fV y=false:=by
      rw[kV];exact λe=>hn y e p
     simp only[Q,p,E,cC,gW]
     simpa using H)
    rw[m]at F;cases F;exact e4
   .obtain⟨o,F,e4⟩:=cm h2 j (by
     unfold GG
     rw[jE]
     refine⟨?_,by rw[O r];rfl⟩
     unfold ck
     simp only[jE,iY]
     refine⟨by omega,?_⟩
     rw[cR,n]
     refine⟨p,?_⟩
     rw[I3]
     refine⟨i,iY.mpr (by omega),?_⟩
     rw[m]
     have R:fV x=false:=by
      rw[kV];exact λe=>hn x e r
     simp only[R,r,E,cC,gW,xV]
     simpa using H)
    rw[n]at F;cases F;exact e4
  .refine xzc (xi0 h3 (i,j) ?_);unfold W1;rw[jE];refine⟨?_,by simpa using l⟩;unfold xiz;simp only[mU,fR,jE];refine⟨j,J,i,⟨L,?_⟩,rfl⟩;simp only[xlu]at w H;simp only[w,H,Bool.or_self,cC]
def x5r(F:xU P pol call){c:FCtx}{A:Nat->Hs}(H:Mono A)(J:Under c.hs A){d:Array Oper}{i:Bool}{s:Fs}{k:Fs->Option R}{r:R}(h:ee P pol call c d i s k=some r):∃w,k w=some r/\∃n,rO P pol (gO P pol n) (c.c (A n)) d i s.s=some w.s:=by
 unfold ee at h;obtain⟨j,g,K,n,E⟩:=xic F H J h;cases i with
 |false=>refine⟨{j with fc:=s.fc+d.size},g,n,?_⟩;unfold rO;rw[E];rfl
 |true=>
  rw[cond_true]at g;cases l:zF P d j.sl with
  |true=>rw[l]at g;cases g
  |false=>
  cases D:KS P d with
  |false=>rw[l,D]at g;cases g
  |true=>
   rw[l,D,cC,gW,cond_true]at g;have t:F1 pol c.f d j.sl (GG pol c.f d)=true->xA pol c.f c.u s.fc s.m.next d j.sl (W1 pol c.f d)=true->k {j with fc:=s.fc+d.size}=some r->∃w,k w=some r/\∃n,rO P pol (gO P pol n) (c.c (A n)) d true s.s=some w.s:=by
    intro a b e;refine⟨_,e,n,?_⟩;unfold rO;rw[E];simp only
    have C:H3 P pol (c.c (A n)) s.s.fc s.s.st.next d j.s.sl=true:=x57 D a b;rw[C,show zF P d j.s.sl=false from l];rfl
   split at g
   .rename_i x;split at g
    .rename_i y;exact t (by rw[x];rfl) (by rw[y];rfl) g
    .rename_i p q y;cases o:xA pol c.f c.u s.fc s.m.next d j.sl (p::q)with
     |false=>rw[o]at g;cases g
     |true=>rw[o]at g;exact t (by rw[x];rfl) (by rw[y];exact o) g
   .rename_i a b x;cases o:(F1 pol c.f d j.sl (a::b)&&xA pol c.f c.u s.fc s.m.next d j.sl (W1 pol c.f d))with
    |false=>rw[o]at g;cases g
    |true=>rw[o]at g;rw[cR]at o;exact t (by rw[x];exact o.1) o.2 g
end Go.Ix
