import Derived.Test.YtjngclcijnpooaaGreatDoorFxOps
set_option linter.all false
namespace Go.Ix
variable{P:Program}{pol:Pol}{call:aJ}{R:Type}
def xnz(h:Hp)(i j:Id):fK (BI h i) j=shut [i] (fK h) j:=by
 unfold BI shut;by_cases a:j=i
 .subst a;rw[aF (pS.mpr rfl)];cases e:fK h j with
  |none=>simp[e]
  |some o=>
   cases o with
   |map b=>simp[e]
   |lp d=>simp[e]
   |bld t e l=>simp[e]
   |row g v f=>
    cases f with
    |true=>simp[e]
    |false=>simp[KK]
 .rw[aB (by simpa using a)];split
  .rw[KK,aB a]
  .rfl
def L1:∀(a:List Id) (h:Hp),fK (lH a h)=shut a (fK h)
 |[],h=>by funext i;simp[lH,shut]
 |i::r,h=>by
  funext j;rw[lH,L1 r];have b:=xnz h i j;unfold shut at b ⊢;rw[b];by_cases g:j=i
  .subst g;simp only[cM,dW,true_or];cases e:fK h j with
   |none=>simp
   |some o=>
    cases o with
    |map m=>simp
    |lp d=>simp
    |bld t e l=>simp
    |row n v f=>simp
  .simp[g]
def ZY(d:Hp):∀(a:List Id) (h:Hp),(∀i∈a,∃o,fK d i=some o)->∀j,fK (T5 d a h) j=if j∈a then fK d j else fK h j
 |[],h,_,j=>by simp[T5]
 |i::r,h,g,j=>by
  obtain⟨o,f⟩:=g i (eP ..);simp only[T5,f];rw[ZY d r _ λx l=>g x (eE _ l)];simp only[dW,KK];by_cases e:j∈r
  .simp[e]
  .by_cases b:j=i
   .subst b;simp[e,f]
   .simp[e,b]
def xo7{h:Hp}{u:Nat}(a:∀e∈h,e.1≠u):gU h u=[]:=by
 induction h with
 |nil=>rfl
 |cons e r d=>obtain⟨v,l⟩:=e;simp only[gU];have:Nat.beq v u=false:=(by rw[kI];intro x;exact a _ (eP ..) (fE x));rw[this];exact d λe b=>a e (eE _ b)
def JA{p:Nat×List (Nat×Nat×Ob)->Bool}{u:Nat}{t:Hp}(a:∀e∈t,e.1≠u):∀{h:Hp},(∀l,p (u,l)=true)->gU (h.filter p++t) u=gU h u
 |[],_=>xo7 a
 |(v,l)::r,b=>by
  simp only[fb];by_cases f:v=u
  .subst f;rw[aF (b l)];simp[gU]
  .have d:Nat.beq v u=false:=(by rw[kI];intro x;exact f (fE x));split
   .simp only[iY,gU,d,cond_false];exact JA a b
   .simp only[gU,d,cond_false];exact JA a b
def xbl{u:Nat}{t:Hp}:∀{h:Hp},(∀e∈h,e.1≠u)->gU (h++t) u=gU t u
 |[],_=>rfl
 |(v,l)::r,a=>by have d:Nat.beq v u=false:=(by rw[kI];intro x;exact a _ (eP ..) (fE x));simp only[iY,gU,d,cond_false];exact xbl λe b=>a e (eE _ b)
def xd6(d h:Hp)(n:Nat):fK ((d.filter λe=>Nat.ble n e.1)++(h.filter λe=>Nat.blt e.1 n))=λi=>if n<=i.1 then fK d i else fK h i:=by
 funext i;unfold fK;by_cases b:n<=i.1
 .rw[aF b,JA]
  .intro e a;rw[iX]at a;have:=rK a.2;omega
  .intro l;exact LW b
 .rw[aB b,xbl]
  .have:gU (List.filter (λe=>e.fst.blt n) h++[]) i.1=gU h i.1:=JA (λe a=>by cases a) (λl=>LW (by omega));rw[iH]at this;rw[this]
  .intro e a;rw[iX]at a;have:=rK a.2;omega
def Mono(A:Nat->Hs):Prop:=∀n m,n<=m->HLe (A n) (A m)
def Under(Z:FHs)(A:Nat->Hs):Prop:=∀id h,sQ Z id=some h->∀a m b,h a m=some b->∃n g,oC (A n) id=some g/\g a m.st=some b.st
def ee:Nat->Hs:=λ_=>[]
def Mono.nil:Mono ee:=λ_ _ _=>trivial
def Under.nil:Under [] ee:=λ_ _ h=>by simp[sQ]at h
def Under.shift{Z:FHs}{A:Nat->Hs}(b:Mono A)(h:Under Z A):Under Z λn=>A (n+1):=by intro id g d a m f e;obtain⟨n,r,i,j⟩:=h id g d a m f e;obtain⟨l,o,p⟩:=ar (b n (n+1) (by omega)) i;exact⟨n,l,o,p _ _ _ j⟩
def xE(P:Program)(pol:Pol)(b:aJ):Prop:=∀Z A f a m r d,Mono A->Under Z A->b Z f a m=some (r,d)->∃n,gH P pol n (A n) f a m.st=some (r,d.st)
def dd{n m:Nat}(h:n<=m):d5 (gH P pol n) (gH P pol m):=xg4 (rB h)
def xe2(E:xE P pol call){Z:FHs}{A:Nat->Hs}(Q:Mono A)(N:Under Z A){l:Nat}{J:AV}{p:List AV}{m O:Mem}{r:AV}(h:fL call Z l J p m=some (r,O)):∃n,gJ (gH P pol n) (A n) l J p m.st=some (r,O.st):=by
 cases J with
 |clo f t=>
  simp only[fL]at h;split at h
  .unfold aI at h;split at h
   .rename_i x y;split at h
    .rename_i r0 u C;rw[cE]at h;obtain⟨r1,H,M⟩:=h;cases M;obtain⟨n,w⟩:=E _ _ _ _ _ _ _ Mono.nil Under.nil C;refine⟨n,?_⟩;have e1':(p++t).mapM (frz m.st.aC bI)=some x:=y;have hn':gH P pol n [] f x pL=some (r0,u.st):=w;have h1':frz u.st.aC bI r0=some r:=H;simp only[gJ,e1',hn',h1',Option.map_some]
     rw[show(Mem.mk (lH ((p++t).flatMap (reach m.get bI)) m.hp) m.next).st={m.st with aC:=shut ((p++t).flatMap (reach m.st.aC bI)) m.st.aC}from by
      simp only[Mem.st]
      congr 1
      exact L1 _ _]
    .cases h
   .cases h
  .unfold eO at h;split at h
   .rename_i x y;split at h
    .rename_i r0 u C;split at h
     .rename_i F;cases h;obtain⟨n,w⟩:=E _ _ _ _ _ _ _ Mono.nil Under.nil C;refine⟨n,?_⟩;have e1':(p++t).mapM (frz m.st.aC bI)=some x:=y;have hn':gH P pol n [] f x pL=some (r,u.st):=w;simp only[gJ,e1',hn',aF F]
     .cases h
    .cases h
   .cases h
  .unfold tZ at h;split at h
   .rename_i x y;split at h
    .rename_i r0 u C;split at h
     .rename_i F;cases h;obtain⟨n,w⟩:=E _ _ _ _ _ _ _ Mono.nil Under.nil C;refine⟨n,?_⟩;have e1':(p++t).mapM (frz m.st.aC bI)=some x:=y;have hn':gH P pol n [] f x {aC:=λ_=>none,next:=m.next}=some (r,u.st):=w;simp only[gJ];rw[e1'];simp only
      rw[show({aC:=λ_=>none,next:=m.st.next}:St)={aC:=λ_=>none,next:=m.next}from rfl,hn'];simp only
      split;case isFalse hno=>exact absurd F hno
      have X:∀i∈reach u.get bI r,∃o,fK u.hp i=some o:=by
       intro j R;rw[cI]at F;have:=dJ.mp F.2 j R;rw[cI]at this;revert this;show _/\(match fK u.hp j with|some (.row Y _ false)=>Y.all pH|_=>false)=true->_;rintro⟨-,D⟩;cases e:fK u.hp j with
       |none=>rw[e]at D;cases D
       |some o=>exact⟨o,rfl⟩
      congr 2;simp only[Mem.st,Mem.get];congr 1;funext i;exact(ZY _ _ _ X i).symm
     .cases h
    .cases h
   .cases h
  .unfold vM at h;split at h
   .rename_i y;split at h
    .rename_i r0 u C;cases h;obtain⟨n,w⟩:=E _ _ _ _ _ _ _ Mono.nil Under.nil C;refine⟨n,?_⟩;have hn':gH P pol n [] f (p++t) {aC:=λ_=>none,next:=m.next}=some (r,u.st):=w;simp only[gJ,aF y];rw[show({aC:=λ_=>none,next:=m.st.next}:St)={aC:=λ_=>none,next:=m.next}from rfl,hn'];simp only[Mem.st];congr 2;exact congrArg (St.mk · _) (xd6 u.hp m.hp m.next).symm
    .cases h
   .cases h
  .rename_i W K D H;obtain⟨n,w⟩:=E _ _ _ _ _ _ _ Q N h;refine⟨n,?_⟩;have L:∀l:Nat,(l=0->False)->(l=3->False)->(l=4->False)->(l=1->False)->gJ (gH P pol n) (A n) l (.clo f t) p m.st=gH P pol n (A n) f (p++t) m.st:=(by intro l a b c d;unfold gJ;split<;>first|rfl|(exact(a rfl).elim)|(exact(b rfl).elim)|(exact(c rfl).elim)|(exact(d rfl).elim)|skip;split<;>first|rfl|(exact(a rfl).elim)|(exact(b rfl).elim)|(exact(c rfl).elim)|(exact(d rfl).elim)|simp_all;all_goals simp_all);rw[L l W K D H];exact w
 |yld id=>
  simp only[fL]at h;split at h
  .rename_i g e;rw[cE]at h;obtain⟨m1,H,M⟩:=h;cases M;obtain⟨n,g',K,D⟩:=N _ _ e _ _ _ H;exact⟨n,by simp only[gJ,K,D,Option.map_some];rfl⟩
  .cases h
 |_=>simp[fL]at h
def ZF{a b:Nat}(h:a≠b):Nat.beq a b=false:=by
 cases e:Nat.beq a b with
 |true=>exact absurd (fE e) h
 |false=>rfl
def xbk{u Y:Nat}:∀(h:Hp) (w:Nat),gU (T8 u Y h) w=if w=u then(gU h w).filter (λe=>Nat.blt e.1 Y)else gU h w
 |[],w=>by simp[T8,gU]
 |(v,l)::r,w=>by
  simp only[T8];cases b:Nat.beq v u with
  |true=>
   have e:=fE b;subst e;simp only[cond_true,gU];by_cases a:w=v
   .subst a;simp
   .have:Nat.beq v w=false:=ZF (Ne.symm a);simp[this,a]
  |false=>
   have e:v≠u:=(by intro e;subst e;simp at b);simp only[cond_false,gU,xbk r w];cases a:Nat.beq v w with
   |true=>have d:=fE a;subst d;simp[e]
   |false=>simp
def IY{Y s t:Nat}:∀(l:List (Nat×Nat×Ob)),jQ (l.filter λe=>Nat.blt e.1 Y) s t=if Y<=s then none else jQ l s t
 |[]=>by simp[jQ]
 |(a,b,o)::r=>by
  rw[fb];cases d:Nat.blt a Y with
  |true=>
   have g:a<Y:=rK d;simp only[cM,jQ,IY r];cases f:Nat.beq a s&&Nat.beq b t with
   |true=>rw[cI]at f;have:=fE f.1;simp[show ¬Y<=s by omega]
   |false=>simp
  |false=>
   have g:¬a<Y:=λh=>by have:Nat.blt a Y=true:=LW h;rw[this]at d;cases d
   simp only[fH,cT,IY r,jQ];by_cases Z:Y<=s
   .simp[Z]
   .rw[aB Z,aB Z];have:Nat.beq a s=false:=ZF (by omega);simp[this]
def YL{Y s t:Nat}{B:List (Nat×Nat×Ob)}:∀(l:List (Nat×Nat×Ob)),jQ ((l.filter λe=>Nat.ble Y e.1)++B) s t=if Y<=s then(match jQ l s t with|some o=>some o|none=>jQ B s t)else jQ B s t
 |[]=>by simp[jQ]
 |(a,b,o)::r=>by
  rw[fb];cases d:Nat.ble Y a with
  |true=>
   have g:Y<=a:=rK d;simp only[cM,iY,jQ,YL r];cases f:Nat.beq a s&&Nat.beq b t with
   |true=>rw[cI]at f;have:=fE f.1;simp[show Y<=s by omega]
   |false=>simp
  |false=>
   have g:¬Y<=a:=λh=>by have:Nat.ble Y a=true:=LW h;rw[this]at d;cases d
   simp only[fH,cT,YL r,jQ];by_cases Z:Y<=s
   .have:Nat.beq a s=false:=ZF (by omega);simp[this]
   .rw[aB Z,aB Z]
def T9{u Y:Nat}{i:Id}:sN u Y i=true↔i.1=u/\Y<=i.2.1:=by unfold sN;rw[cI];exact⟨λh=>⟨fE h.1,rK h.2⟩,λh=>⟨by rw[h.1];exact zQ _,LW h.2⟩⟩
def x0j{u Y:Nat}{m:Mem}(i:Id):(au u Y m).get i=if sN u Y i=true then none else m.get i:=by
 show jQ (gU (T8 u Y m.hp) i.1) i.2.1 i.2.2=_;rw[xbk];by_cases a:i.1=u
 .rw[aF a,IY];by_cases b:Y<=i.2.1
  .rw[aF b,aF (T9.2 ⟨a,b⟩)]
  .rw[aB b,aB (λh=>b (T9.1 h).2)];rfl
 .rw[aB a,aB (λh=>a (T9.1 h).1)];rfl
def x8g{u Y:Nat}{m d:Mem}(i:Id):(xhb u Y m d).get i=if sN u Y i=true then m.get i else d.get i:=by
 show jQ (gU (xW _ d.hp u) i.1) i.2.1 i.2.2=_;rw[IZ];by_cases a:i.1=u
 .rw[aF a,YL,IY];by_cases b:Y<=i.2.1
  .rw[aF b,aF (T9.2 ⟨a,b⟩),aF b];show _=jQ (gU m.hp i.1) i.2.1 i.2.2;rw[a];split
   .rename_i e;exact e.symm
   .rename_i e;exact e.symm
  .rw[aB b,aB (λh=>b (T9.1 h).2),aB b,<-a];rfl
 .rw[aB a,aB (λh=>a (T9.1 h).1)];rfl
def x0p(o:xE P pol call){Z:FHs}{A:Nat->Hs}(w:Mono A)(x:Under Z A){u Y a:Nat}{j:AV}{b:List AV}{m t:Mem}{r:AV}(h:bf call u Y Z a j b m=some (r,t)):∃n,kW (gH P pol n) u Y (A n) a j b m.st=some (r,t.st):=by
 unfold bf at h;cases d:Nat.beq a 9 with
 |true=>
  have e:=fE d;subst e;simp only[d,cond_true]at h;cases j with
  |clo f g=>
   simp only[xa9,cE,bF]at h;obtain⟨p,C,rfl,rfl⟩:=h;obtain⟨n,l⟩:=o _ _ _ _ _ _ _ Mono.nil Under.nil C;refine⟨n,?_⟩;unfold kW;rw[aF rfl];have y:wK u Y m.st=(au u Y m).st:=by
    unfold wK Mem.st;simp only
    congr 1;funext i;exact(x0j i).symm
   have hn':gH P pol n [] f (b++g) (wK u Y m.st)=some (p.1,p.2.st):=(by rw[y];exact l);simp only[hn'];congr 2;unfold LM Mem.st;simp only
   congr 1;funext i;exact(x8g i).symm
  |_=>cases h
 |false=>simp only[d,cond_false]at h;obtain⟨n,l⟩:=xe2 o w x h;refine⟨n,?_⟩;unfold kW;rw[aB (λe=>by rw[e]at d;simp at d)];exact l
def FCtx.c(c:FCtx)(Z:Hs):Ctx:={f:=c.f,u:=c.u,nt:=c.nt,hs:=Z}
def bg{a:Array Oper}{o:Oper}{b:Nat->AV}:mZ a o b=HY a o.guard b:=by
 unfold mZ HY;cases o.guard with
 |none=>rfl
 |some g=>
  obtain⟨j,w⟩:=g;simp only
  cases(a[j]?).bind (·.dst)with
  |none=>rfl
  |some t=>simp only[sW];rfl
def bv{c:FCtx}{Z:Hs}{a:Option Tmp}{v:AV}{s:Fs}{k:Fs->Option R}{r:R}(h:KO c.nt a v s k=some r):∃b,put (c.c Z) a v s.s=some b.s/\k b=some r/\b.fc=s.fc/\b.m=s.m:=by
 unfold KO at h;split at h
 .rename_i d;cases e:Nat.blt d c.nt with
  |false=>rw[e]at h;cases h
  |true=>rw[e]at h;exact⟨_,by simp only[put];rw[aF (show d<(c.c Z).nt from rK e)];rfl,h,rfl,rfl⟩
 .exact⟨s,rfl,h,rfl,rfl⟩
def xfc(X:xE P pol call){c:FCtx}{A:Nat->Hs}(Y:Mono A)(Z:Under c.hs A){C:Array Oper}{i:Nat}{o:Oper}(M:C[i]?=some o){s:Fs}{k:AV->Mem->Option R}{r:R}(h:iU P pol call {c with fc:=s.fc} (c.u,s.fc+i,o.dst.getD 0) o s.sl s.m k=some r)(N:mZ C o s.sl=true) :
    ∃v y,k v y=some r/\∃n,∀F,put (c.c (A n)) o.dst v {s with m:=y}.s=some F->jH P pol (gH P pol n) (c.c (A n)) C i s.s=some F:=by
 by_cases E:fV o=true
 .obtain⟨x,L,w,pos,g,j⟩:=o;cases L with
  |call cl=>
   obtain⟨l,a,b⟩:=cl;cases l with
   |value Q=>
    simp only[iU]at h;rw[oF]at h;obtain⟨⟨v,y⟩,D,J⟩:=h;obtain⟨n,E⟩:=x0p X Y Z D;refine⟨v,y,J,n,λF H=>?_⟩;unfold jH;rw[M];simp only
    have hw':mZ C {dst:=x,op:=Op.call {callee:=Callee.value Q,args:=a,argTypes:=b},type:=w,pos:=pos,after:=g,guard:=j} s.s.sl=true:=N;rw[aF hw'];have hn':kW (gH P pol n) (c.c (A n)).u s.s.fc (c.c (A n)).hs (nm (pol (c.c (A n)).f (x.getD 0))) (ev s.s.sl Q) (a.toList.map (ev s.s.sl)) s.s.st=some (v,y.st):=E;rw[hn'];exact H
   |_=>simp[fV]at E
  |_=>simp[fV]at E
 .have hn':fV o=false:=(by simpa using E);by_cases W:∃rv d a t,o.op=.call ⟨.invoke rv d,a,t⟩
  .obtain⟨rv,d,a,t,K⟩:=W;obtain⟨x,L,w,pos,g,j⟩:=o;simp only at K;subst K;simp only[iU,U0]at h;rw[oF]at h;obtain⟨⟨v,y⟩,D,J⟩:=h;rw[oF]at D;obtain⟨p,H,D⟩:=D;obtain⟨n,E⟩:=xe2 X Y Z D;refine⟨v,y,J,n,λF O=>?_⟩;unfold jH;rw[M];simp only
   have hw':mZ C {dst:=x,op:=Op.call {callee:=Callee.invoke rv d,args:=a,argTypes:=t},type:=w,pos:=pos,after:=g,guard:=j} s.s.sl=true:=N;rw[aF hw'];have hn':gJ (gH P pol n) (c.c (A n)).hs (nm (pol (c.c (A n)).f (x.getD 0))) (.clo p.1 []) (p.2::a.toList.map (ev s.s.sl)) s.s.st=some (v,y.st):=E;have hp':pG P (ev s.s.sl rv) d=some p:=H;simp only[hp',hn'];exact O
  obtain⟨v,y,D,J,h3⟩:=x0o hn' (λrv d a t e=>W ⟨rv,d,a,t,e⟩) h;refine⟨v,y,h3,0,λF H=>?_⟩;unfold jH;rw[M];simp only
  have hw':mZ C o s.s.sl=true:=N;rw[aF hw'];have h1':aO P ((c.c (A 0)).u,s.s.fc+i,o.dst.getD 0) o s.s.sl s.s.st.aC=some (v,y.get):=D;have hp':put (c.c (A 0)) o.dst v {s.s with st:={s.s.st with aC:=y.get}}=some F:=(by have:({s with m:=y}:Fs).s={s.s with st:={s.s.st with aC:=y.get}}:=(by simp only[Fs.s,Mem.st,J]);rw[<-this];exact H);split
  .rename_i Q a t e;have:fV o=true:=(by simp only[fV,e]);rw[this]at hn';cases hn'
  .rename_i rv d a t e;exact absurd ⟨rv,d,a,t,e⟩ W
  .rw[h1'];exact hp'
def x0r(x:xE P pol call){c:FCtx}{A:Nat->Hs}(y:Mono A)(C:Under c.hs A){b:Array Oper}{i:Nat}{s:Fs}{k:Fs->Option R}{r:R}(h:ay P pol call c b i s k=some r):∃a,k a=some r/\a.fc=s.fc/\∃n,jH P pol (gH P pol n) (c.c (A n)) b i s.s=some a.s:=by
 unfold ay at h;split at h
 .rename_i e;exact⟨s,h,rfl,0,by unfold jH;rw[e]⟩
 .rename_i o e;split at h
  .rename_i j;obtain⟨v,D,d,n,l⟩:=xfc x y C e h (by rw[bg,j];rfl);obtain⟨a,t,u,f,m⟩:=bv (Z:=A n) d;exact⟨a,u,f,n,l _ t⟩
  .rename_i g j;rw[oF]at h;obtain⟨⟨v,D⟩,d,l⟩:=h;cases p:HY b (some g) s.sl with
   |true=>rw[p,cond_true]at d;obtain⟨F,H,t,n,u⟩:=xfc x y C e d (by rw[bg,j];exact p);cases t;obtain⟨a,f,m,w,E⟩:=bv (Z:=A n) l;exact⟨a,m,w,n,u _ f⟩
   |false=>
    rw[p,cond_false]at d;cases d;obtain⟨a,f,m,w,E⟩:=bv (Z:=A 0) l;refine⟨a,m,w,0,?_⟩;unfold jH;rw[e];simp only
    rw[aB (by rw[show s.s.sl=s.sl from rfl,bg,j,p];simp)];exact f
def xe9(g:xE P pol call){c:FCtx}{A:Nat->Hs}(e:Mono A)(j:Under c.hs A){d:Array Oper}:∀{L:List Nat} {s:Fs} {k:Fs->Option R} {r:R},
    az P pol call c d L s k=some r->∃f,k f=some r/\f.fc=s.fc/\∃n,iT P pol (gH P pol n) (c.c (A n)) d L s.s=some f.s
 |[],s,k,r,h=>⟨s,h,rfl,0,rfl⟩
 |i::L,s,k,r,h=>by obtain⟨o,p,t,a,u⟩:=x0r g e j h;obtain⟨w,x,y,b,C⟩:=xe9 g e j p;refine⟨w,x,y.trans t,max a b,?_⟩;have l:=xag (dd (P:=P) (pol:=pol) (Nat.le_max_left a b)) (e a (max a b) (Nat.le_max_left ..)) u;have m:=YJ (dd (P:=P) (pol:=pol) (Nat.le_max_right a b)) (e b (max a b) (Nat.le_max_right ..)) C;simp only[iT];have q1':jH P pol (gH P pol (max a b)) (c.c (A (max a b))) d i s.s=some o.s:=l;rw[q1'];exact m
def XL{d:Id}{o:Oper}{i:Nat->AV}:o8 d o i=dV d o i:=by
 obtain⟨m,n,j,pos,g,h⟩:=o;unfold o8;cases n with
 |load t a=>rfl
 |store t a x=>rfl
 |slice t x r u w=>rfl
 |lookup t x ix ok=>rfl
 |call p=>
  obtain⟨e,l,b⟩:=p;simp only
  split
  .rename_i s x f;simp only[dV,f];rfl
  .rename_i s x f;simp only[dV,f];rfl
  .rfl
 |_=>rfl
def ZI{b:Nat}{o:Oper}{g:Nat->AV}:T0 b o g=gV b o g:=by
 obtain⟨j,l,h,pos,e,f⟩:=o;cases l with
 |call m=>
  obtain⟨a,i,d⟩:=m;cases a with
  |value n=>rfl
  |_=>rfl
 |_=>rfl
def xxm{mode:Nat}{o:Oper}{sl:Nat->AV}:gV mode o sl<=2:=by
 rw[<-ZI];unfold T0 mkD bU;split
 .split
  .split
   .split
    .omega
    .split<;>omega
   .omega
  .omega
 .omega
def xgx{a:Nat}{b:Option Nat}{f:Id}{x y:Oper}{g:Nat->AV}(l:fV y=false)(h:cU b (o8 f y g) (T0 a x g)=true):sY a b f x y g=true:=by
 unfold sY;rw[XL,ZI]at h;rw[l];simp only[cF,iG];unfold cU at h;split at h
 .rename_i r o e;rw[e];simp only
  rw[cI]at h ⊢;refine⟨?_,?_⟩
  .have j:=h.1;cases b with
   |none=>rfl
   |some n=>simp only at j ⊢;rw[dJ]at j ⊢;intro i m;exact eX (rK (j i m))
  .have d:=h.2;rw[lD,cI]at d ⊢;rcases d with d|⟨d,h3⟩
   .exact Or.inl (by rw[fE d];rfl)
   .exact Or.inr ⟨by rw[fE d];rfl,h3⟩
 .cases h
def xut{c:FCtx}{Z:Hs}{Y a:Nat}{d:Array Oper}{i j:Nat}{l:Nat->AV}(h:JP pol c.f c.u Y a d i j l=true):pairOK pol (c.c Z) Y a d i j l=true:=by
 unfold JP at h;unfold pairOK;split at h
 .rename_i x y m n;rw[m,n];simp only
  rw[cI]at h ⊢;refine⟨h.1,?_⟩;rw[lD];right;have b:=h.2;split at b
  .rename_i e;rw[aF e];rw[cI]at b;exact xgx (by simpa using b.1) b.2
  .rename_i e;rw[aB e];split at b
   .rename_i g;rw[aF g];exact xgx (by simpa using e) b
   .rename_i g;rw[aB g];rw[XL,XL]at b;exact b
 .cases h
def xnn{c:FCtx}{Z:Hs}{Y a:Nat}{b:Array Oper}{i j:Nat}{d:Nat->AV}(h:K9 pol c.f b i j=true):pairOK pol (c.c Z) Y a b i j d=true:=by
 unfold K9 at h;unfold pairOK;split at h
 .rename_i x y e g;rw[e,g];simp only
  rw[cI]at h ⊢;refine⟨h.1,?_⟩;rw[lD];exact Or.inl h.2
 .cases h
def xm2{e:Op}(h:kC e=true):sO e=true:=by
 cases e with
 |call c=>
  obtain⟨a,f,d⟩:=c;cases a with
  |builtin b=>cases b<;>simp[kC]at h<;>rfl
  |_=>simp[kC]at h
 |_=>first|(simp[kC]at h;done)|rfl
def xam{f:Nat}{b:Array Oper}{i:Nat}{x:Oper}{y:Op}(e:b[i]?=some x)(h:BD pol f b i=true)(d:kC y=true):tP (pol f (x.dst.getD 0)) x y=true:=by
 unfold BD at h;rw[e]at h;simp only at h;unfold tP;rw[cI]at h ⊢;refine⟨h.1,?_⟩;have g:yU y=true:=d;have j:=xm2 d;rw[j,g];have a:=h.2;simp only[lD,cI,iG,pk]at a ⊢;rcases a with a|a
 .exact .inl (.inr a)
 .exact .inr a
def AW{e:Id}{o:Oper}{l:Nat->AV}(h:kC o.op=true):dV e o l=(some [],some []):=by
 obtain⟨m,n,i,pos,f,g⟩:=o;cases n with
 |call p=>
  obtain⟨a,j,d⟩:=p;cases a with
  |builtin b=>cases b<;>first|rfl|(simp[kC]at h)
  |_=>simp[kC]at h
 |_=>first|rfl|(simp[kC]at h)
def J'{id0:Id}{o:Oper}{sl:Nat->AV}(h:IE o.op=true):∃r,dV id0 o sl=(some r,some []):=by
 unfold IE at h;rw[lD]at h;rcases h with h|h
 .exact⟨[],AW h⟩
 .obtain⟨f,g,e,pos,b,d⟩:=o;cases g with
  |load t a=>simp only[dV];split<;>exact⟨_,rfl⟩
  |slice t x i j l=>simp only[dV];split<;>exact⟨_,rfl⟩
  |lookup t x ix ok=>simp only[dV];split<;>exact⟨_,rfl⟩
  |_=>simp at h
def xnh{c:FCtx}{Z:Hs}{Y m:Nat}{g:Array Oper}{i j:Nat}{a:Nat->AV}(h:BB g i j=true)(t:∀x y,g[i]?=some x->g[j]?=some y->(fV x=true->kC y.op=true->1<=gV (nm (pol c.f (x.dst.getD 0))) x a)/\(fV y=true->kC x.op=true->1<=gV (nm (pol c.f (y.dst.getD 0))) y a)) :
    pairOK pol (c.c Z) Y m g i j a=true:=by
 unfold BB at h;unfold pairOK;split at h
 .rename_i x y C D;obtain⟨w,A⟩:=t x y C D;rw[C,D];simp only
  rw[cI]at h ⊢;refine⟨h.1,?_⟩;rw[lD];right;have b:∀{mode:Nat} {x:Oper},1<=gV mode x a->(gV mode x a == 2||(gV mode x a == 1&&([]:List Id).isEmpty))=true:=(by intro mode x M;have:=xxm (mode:=mode) (o:=x) (sl:=a);have:gV mode x a=1\/gV mode x a=2:=(by omega);rcases this with e|e<;>rw[e]<;>rfl);have l:=h.2;rw[lD]at l;rcases l with l|l
  .rw[cI,cI]at l;obtain⟨⟨r,J⟩,d⟩:=l;rw[aB (by simpa using r),aB (by simpa using J)];rw[lD,lD,cI]at d;rcases d with (d|d)|⟨d,n⟩
   .rw[AW d];rfl
   .rw[AW d];unfold aW;split<;>simp_all
   .obtain⟨P,K⟩:=J' (id0:=((c.c Z).u,Y+i,x.dst.getD 0)) (sl:=a) d;obtain⟨Q,L⟩:=J' (id0:=((c.c Z).u,Y+j,y.dst.getD 0)) (sl:=a) n;rw[K,L];unfold aW;split
    .rfl
    .rfl
    .rename_i E F;cases E;cases F;simp[kX]
    .rename_i N O H;exact(H _ _ _ _ rfl rfl).elim
  .unfold xcu at l;rw[lD,cI,cI,cI,cI]at l;rcases l with ⟨⟨d,n⟩,p⟩|⟨⟨d,n⟩,p⟩
   .rw[aF d];unfold sY;rw[n,AW p];simp only[iG,iH,mT];exact b (w d p)
   .have r:fV x=false:=(by simpa using n);rw[aB (by rw[r];simp),aF d];unfold sY;rw[r,AW p];simp only[cF,iG];exact b (A d p)
 .cases h
def ZP{f:Nat}{b:Array Oper}{i:Nat->AV}:∀{l:List Nat},C6 pol f b i l=true->∀j∈l,∃o,b[j]?=some o/\1<=gV (nm (pol f (o.dst.getD 0))) o i
 |[],_,j,d=>by cases d
 |a::l,h,j,d=>by
  simp only[C6,cI]at h;rcases dW.mp d with rfl|d
  .have g:=h.1;split at g
   .rename_i o e;rw[ZI]at g;exact⟨o,e,rK g⟩
   .cases g
  .exact ZP h.2 j d
def xfx{f u Y a:Nat}{b:Array Oper}{e:Nat->AV}:∀{l:List (Nat×Nat)},wR pol f u Y a b e l=true->∀p∈l,JP pol f u Y a b p.1 p.2 e=true
 |[],_,p,d=>by cases d
 |(i,j)::l,h,p,d=>by
  simp only[wR,cI]at h;rcases dW.mp d with rfl|d
  .exact h.1
  .exact xfx h.2 p d
def x1h{c:FCtx}{Z:Hs}{Y g:Nat}{d:Array Oper}{K:Nat->AV}(C:IL P d=true)(h2:C6 pol c.f d K (ED pol c.f d)=true)(h3:wR pol c.f c.u Y g d K (U5 pol c.f d)=true) :
    F0 P pol (c.c Z) Y g d K=true:=by
 unfold F0;unfold IL at C;simp only at C ⊢;rw[dJ]at C ⊢;intro j J;have t:=C j J;rw[cI,cI]at t ⊢;refine⟨t.1,?_⟩;have h4:=t.2;rw[dJ]at h4 ⊢;intro i L;rw[cI];refine⟨h4 i L,?_⟩;rw[lD];by_cases H:((uV d).getD j []).contains i=true
 .exact Or.inl H
 .right;by_cases l:K9 pol c.f d i j=true
  .exact xnn l
  by_cases w:BB d i j=true
  .refine xnh w λx y m n=>?_
   have D:x.apart d y=true:=(by unfold BB at w;rw[m,n]at w;simp only[cI]at w;exact w.1);have N:kC y.op=true->BD pol c.f d i=false:=λp=>by rw[kI];intro M;apply l;unfold K9;rw[m,n];simp only[D,xam m M p,NG,gD]
   have O:kC x.op=true->BD pol c.f d j=false:=λr=>by rw[kI];intro M;apply l;unfold K9;rw[m,n];simp only[D,xam n M r,pk,gD]
   have hij:i<j:=iR.mp L;have hjn:j<d.size:=iR.mp J;have E:((uV d).getD i []).contains j=false:=(by have:=C i (iR.mpr (by omega));rw[cI,cI]at this;have h5:=this.1.2;rw[dJ]at h5;rw[kI];intro hc;have:=h5 j (ff.mp hc);have:=sA this;omega);have hn:∀o,fV o=true->kC o.op=true->False:=by
    intro o a b;obtain⟨dst,op,type,pos,W,X⟩:=o;cases op with
    |call cl=>obtain⟨h,args,A⟩:=cl;cases h<;>simp[fV,kC]at a b
    |_=>simp[fV]at a
   refine⟨λr p=>?_,λp r=>?_⟩
   .obtain⟨o,F,e4⟩:=ZP h2 i (by
     unfold ED
     rw[iX]
     refine⟨?_,by rw[N p];rfl⟩
     unfold ZO
     simp only[iX,iR]
     refine⟨by omega,?_⟩
     rw[cI,m]
     refine⟨r,?_⟩
     rw[H2]
     refine⟨j,J,?_⟩
     rw[n]
     have Q:fV y=false:=by
      rw[kI];exact λe=>hn y e p
     simp only[Q,p,E,cF,iG]
     simpa using H)
    rw[m]at F;cases F;exact e4
   .obtain⟨o,F,e4⟩:=ZP h2 j (by
     unfold ED
     rw[iX]
     refine⟨?_,by rw[O r];rfl⟩
     unfold ZO
     simp only[iX,iR]
     refine⟨by omega,?_⟩
     rw[cI,n]
     refine⟨p,?_⟩
     rw[H2]
     refine⟨i,iR.mpr (by omega),?_⟩
     rw[m]
     have R:fV x=false:=by
      rw[kI];exact λe=>hn x e r
     simp only[R,r,E,cF,iG,xF]
     simpa using H)
    rw[n]at F;cases F;exact e4
  .refine xut (xfx h3 (i,j) ?_);unfold U5;rw[iX];refine⟨?_,by simpa using l⟩;unfold xfw;simp only[mK,fF,iX];refine⟨j,J,i,⟨L,?_⟩,rfl⟩;simp only[xip]at w H;simp only[w,H,Bool.or_self,cF]
def x01(F:xE P pol call){c:FCtx}{A:Nat->Hs}(H:Mono A)(J:Under c.hs A){d:Array Oper}{i:Bool}{s:Fs}{k:Fs->Option R}{r:R}(h:bc P pol call c d i s k=some r):∃w,k w=some r/\∃n,rC P pol (gH P pol n) (c.c (A n)) d i s.s=some w.s:=by
 unfold bc at h;obtain⟨j,g,K,n,E⟩:=xe9 F H J h;cases i with
 |false=>refine⟨{j with fc:=s.fc+d.size},g,n,?_⟩;unfold rC;rw[E];rfl
 |true=>
  rw[cond_true]at g;cases l:yM P d j.sl with
  |true=>rw[l]at g;cases g
  |false=>
  cases D:IL P d with
  |false=>rw[l,D]at g;cases g
  |true=>
   rw[l,D,cF,iG,cond_true]at g;have t:C6 pol c.f d j.sl (ED pol c.f d)=true->wR pol c.f c.u s.fc s.m.next d j.sl (U5 pol c.f d)=true->k {j with fc:=s.fc+d.size}=some r->∃w,k w=some r/\∃n,rC P pol (gH P pol n) (c.c (A n)) d true s.s=some w.s:=by
    intro a b e;refine⟨_,e,n,?_⟩;unfold rC;rw[E];simp only
    have C:F0 P pol (c.c (A n)) s.s.fc s.s.st.next d j.s.sl=true:=x1h D a b;rw[C,show yM P d j.s.sl=false from l];rfl
   split at g
   .rename_i x;split at g
    .rename_i y;exact t (by rw[x];rfl) (by rw[y];rfl) g
    .rename_i p q y;cases o:wR pol c.f c.u s.fc s.m.next d j.sl (p::q)with
     |false=>rw[o]at g;cases g
     |true=>rw[o]at g;exact t (by rw[x];rfl) (by rw[y];exact o) g
   .rename_i a b x;cases o:(C6 pol c.f d j.sl (a::b)&&wR pol c.f c.u s.fc s.m.next d j.sl (U5 pol c.f d))with
    |false=>rw[o]at g;cases g
    |true=>rw[o]at g;rw[cI]at o;exact t (by rw[x];exact o.1) o.2 g
end Go.Ix
