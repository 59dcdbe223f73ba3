import Derived.Test.YtjngclcijnpooaaGreatDoorFxOps
set_option linter.all false
namespace Go.Ix
variable{P:Program}{pol:Pol}{call:aK}{R:Type}
def xqy(h:Hp)(i j:Id):fF (CH h i) j=shut [i] (fF h) j:=by
 unfold CH shut;by_cases a:j=i
 .subst a;rw[aH (kQ.mpr rfl)];cases e:fF h j with
  |none=>simp[e]
  |some o=>
   cases o with
   |map b=>simp[e]
   |lp d=>simp[e]
   |bld t e l=>simp[e]
   |row g v f=>
    cases f with
    |true=>simp[e]
    |false=>simp[MA]
 .rw[aD (by simpa using a)];split
  .rw[MA,aD a]
  .rfl
def w5:∀(a:List Id) (h:Hp),fF (lL a h)=shut a (fF h)
 |[],h=>by funext i;simp[lL,shut]
 |i::r,h=>by
  funext j;rw[lL,w5 r];have b:=xqy h i j;unfold shut at b ⊢;rw[b];by_cases g:j=i
  .subst g;simp only[bV,eD,true_or];cases e:fF h j with
   |none=>simp
   |some o=>
    cases o with
    |map m=>simp
    |lp d=>simp
    |bld t e l=>simp
    |row n v f=>simp
  .simp[g]
def db(d:Hp):∀(a:List Id) (h:Hp),(∀i∈a,∃o,fF d i=some o)->∀j,fF (U4 d a h) j=if j∈a then fF d j else fF h j
 |[],h,_,j=>by simp[U4]
 |i::r,h,g,j=>by
  obtain⟨o,f⟩:=g i (eO ..);simp only[U4,f];rw[db d r _ λx l=>g x (eA _ l)];simp only[eD,MA];by_cases e:j∈r
  .simp[e]
  .by_cases b:j=i
   .subst b;simp[e,f]
   .simp[e,b]
def xr6{h:Hp}{u:Nat}(a:∀e∈h,e.1≠u):iH h u=[]:=by
 induction h with
 |nil=>rfl
 |cons e r d=>obtain⟨v,l⟩:=e;simp only[iH];have:Nat.beq v u=false:=(by rw[kU];intro x;exact a _ (eO ..) (fJ x));rw[this];exact d λe b=>a e (eA _ b)
def KV{p:Nat×List (Nat×Nat×Ob)->Bool}{u:Nat}{t:Hp}(a:∀e∈t,e.1≠u):∀{h:Hp},(∀l,p (u,l)=true)->iH (h.filter p++t) u=iH h u
 |[],_=>xr6 a
 |(v,l)::r,b=>by
  simp only[jm];by_cases f:v=u
  .subst f;rw[aH (b l)];simp[iH]
  .have d:Nat.beq v u=false:=(by rw[kU];intro x;exact f (fJ x));split
   .simp only[jM,iH,d,cond_false];exact KV a b
   .simp only[iH,d,cond_false];exact KV a b
def xd0{u:Nat}{t:Hp}:∀{h:Hp},(∀e∈h,e.1≠u)->iH (h++t) u=iH t u
 |[],_=>rfl
 |(v,l)::r,a=>by have d:Nat.beq v u=false:=(by rw[kU];intro x;exact a _ (eO ..) (fJ x));simp only[jM,iH,d,cond_false];exact xd0 λe b=>a e (eA _ b)
def xgr(d h:Hp)(n:Nat):fF ((d.filter λe=>Nat.ble n e.1)++(h.filter λe=>Nat.blt e.1 n))=λi=>if n<=i.1 then fF d i else fF h i:=by
 funext i;unfold fF;by_cases b:n<=i.1
 .rw[aH b,KV]
  .intro e a;rw[gW]at a;have:=rZ a.2;omega
  .intro l;exact NO b
 .rw[aD b,xd0]
  .have:iH (List.filter (λe=>e.fst.blt n) h++[]) i.1=iH h i.1:=KV (λe a=>by cases a) (λl=>NO (by omega));rw[jX]at this;rw[this]
  .intro e a;rw[gW]at a;have:=rZ a.2;omega
def Mono(A:Nat->Hs):Prop:=∀n m,n<=m->HLe (A n) (A m)
def Under(Z:FHs)(A:Nat->Hs):Prop:=∀id h,tG Z id=some h->∀a m b,h a m=some b->∃n g,oT (A n) id=some g/\g a m.st=some b.st
def iy:Nat->Hs:=λ_=>[]
def Mono.nil:Mono iy:=λ_ _ _=>trivial
def Under.nil:Under [] iy:=λ_ _ h=>by simp[tG]at h
def Under.shift{Z:FHs}{A:Nat->Hs}(b:Mono A)(h:Under Z A):Under Z λn=>A (n+1):=by intro id g d a m f e;obtain⟨n,r,i,j⟩:=h id g d a m f e;obtain⟨l,o,p⟩:=dr (b n (n+1) (by omega)) i;exact⟨n,l,o,p _ _ _ j⟩
def xN(P:Program)(pol:Pol)(b:aK):Prop:=∀Z A f a m r d,Mono A->Under Z A->b Z f a m=some (r,d)->∃n,gU P pol n (A n) f a m.st=some (r,d.st)
def gm{n m:Nat}(h:n<=m):d7 (gU P pol n) (gU P pol m):=xjq (rT h)
def xhr(E:xN P pol call){Z:FHs}{A:Nat->Hs}(Q:Mono A)(N:Under Z A){l:Nat}{J:AV}{p:List AV}{m O:Mem}{r:AV}(h:fI call Z l J p m=some (r,O)):∃n,hY (gU P pol n) (A n) l J p m.st=some (r,O.st):=by
 cases J with
 |clo f t=>
  simp only[fI]at h;split at h
  .unfold aI at h;split at h
   .rename_i x y;split at h
    .rename_i r0 u C;rw[cH]at h;obtain⟨r1,H,M⟩:=h;cases M;obtain⟨n,w⟩:=E _ _ _ _ _ _ _ Mono.nil Under.nil C;refine⟨n,?_⟩;have e1':(p++t).mapM (frz m.st.aC bL)=some x:=y;have hn':gU P pol n [] f x qE=some (r0,u.st):=w;have h1':frz u.st.aC bL r0=some r:=H;simp only[hY,e1',hn',h1',Option.map_some]
     rw[show(Mem.mk (lL ((p++t).flatMap (reach m.get bL)) m.hp) m.next).st={m.st with aC:=shut ((p++t).flatMap (reach m.st.aC bL)) m.st.aC}from by
      simp only[Mem.st]
      congr 1
      exact w5 _ _]
    .cases h
   .cases h
  .unfold dZ at h;split at h
   .rename_i x y;split at h
    .rename_i r0 u C;split at h
     .rename_i F;cases h;obtain⟨n,w⟩:=E _ _ _ _ _ _ _ Mono.nil Under.nil C;refine⟨n,?_⟩;have e1':(p++t).mapM (frz m.st.aC bL)=some x:=y;have hn':gU P pol n [] f x qE=some (r,u.st):=w;simp only[hY,e1',hn',aH F]
     .cases h
    .cases h
   .cases h
  .unfold uL at h;split at h
   .rename_i x y;split at h
    .rename_i r0 u C;split at h
     .rename_i F;cases h;obtain⟨n,w⟩:=E _ _ _ _ _ _ _ Mono.nil Under.nil C;refine⟨n,?_⟩;have e1':(p++t).mapM (frz m.st.aC bL)=some x:=y;have hn':gU P pol n [] f x {aC:=λ_=>none,next:=m.next}=some (r,u.st):=w;simp only[hY];rw[e1'];simp only
      rw[show({aC:=λ_=>none,next:=m.st.next}:St)={aC:=λ_=>none,next:=m.next}from rfl,hn'];simp only
      split;case isFalse hno=>exact absurd F hno
      have X:∀i∈reach u.get bL r,∃o,fF u.hp i=some o:=by
       intro j R;rw[cK]at F;have:=dG.mp F.2 j R;rw[cK]at this;revert this;show _/\(match fF u.hp j with|some (.row Y _ false)=>Y.all qA|_=>false)=true->_;rintro⟨-,D⟩;cases e:fF u.hp j with
       |none=>rw[e]at D;cases D
       |some o=>exact⟨o,rfl⟩
      congr 2;simp only[Mem.st,Mem.get];congr 1;funext i;exact(db _ _ _ X i).symm
     .cases h
    .cases h
   .cases h
  .unfold y5 at h;split at h
   .rename_i y;split at h
    .rename_i r0 u C;cases h;obtain⟨n,w⟩:=E _ _ _ _ _ _ _ Mono.nil Under.nil C;refine⟨n,?_⟩;have hn':gU P pol n [] f (p++t) {aC:=λ_=>none,next:=m.next}=some (r,u.st):=w;simp only[hY,aH y];rw[show({aC:=λ_=>none,next:=m.st.next}:St)={aC:=λ_=>none,next:=m.next}from rfl,hn'];simp only[Mem.st];congr 2;exact congrArg (St.mk · _) (xgr u.hp m.hp m.next).symm
    .cases h
   .cases h
  .rename_i W K D H;obtain⟨n,w⟩:=E _ _ _ _ _ _ _ Q N h;refine⟨n,?_⟩;have L:∀l:Nat,(l=0->False)->(l=3->False)->(l=4->False)->(l=1->False)->hY (gU P pol n) (A n) l (.clo f t) p m.st=gU P pol n (A n) f (p++t) m.st:=(by intro l a b c d;unfold hY;split<;>first|rfl|(exact(a rfl).elim)|(exact(b rfl).elim)|(exact(c rfl).elim)|(exact(d rfl).elim)|skip;split<;>first|rfl|(exact(a rfl).elim)|(exact(b rfl).elim)|(exact(c rfl).elim)|(exact(d rfl).elim)|simp_all;all_goals simp_all);rw[L l W K D H];exact w
 |yld id=>
  simp only[fI]at h;split at h
  .rename_i g e;rw[cH]at h;obtain⟨m1,H,M⟩:=h;cases M;obtain⟨n,g',K,D⟩:=N _ _ e _ _ _ H;exact⟨n,by simp only[hY,K,D,Option.map_some];rfl⟩
  .cases h
 |_=>simp[fI]at h
def bq{a b:Nat}(h:a≠b):Nat.beq a b=false:=by
 cases e:Nat.beq a b with
 |true=>exact absurd (fJ e) h
 |false=>rfl
def xdz{u Y:Nat}:∀(h:Hp) (w:Nat),iH (V1 u Y h) w=if w=u then(iH h w).filter (λe=>Nat.blt e.1 Y)else iH h w
 |[],w=>by simp[V1,iH]
 |(v,l)::r,w=>by
  simp only[V1];cases b:Nat.beq v u with
  |true=>
   have e:=fJ b;subst e;simp only[cond_true,iH];by_cases a:w=v
   .subst a;simp
   .have:Nat.beq v w=false:=bq (Ne.symm a);simp[this,a]
  |false=>
   have e:v≠u:=(by intro e;subst e;simp at b);simp only[cond_false,iH,xdz r w];cases a:Nat.beq v w with
   |true=>have d:=fJ a;subst d;simp[e]
   |false=>simp
def KT{Y s t:Nat}:∀(l:List (Nat×Nat×Ob)),jQ (l.filter λe=>Nat.blt e.1 Y) s t=if Y<=s then none else jQ l s t
 |[]=>by simp[jQ]
 |(a,b,o)::r=>by
  rw[jm];cases d:Nat.blt a Y with
  |true=>
   have g:a<Y:=rZ d;simp only[bV,jQ,KT r];cases f:Nat.beq a s&&Nat.beq b t with
   |true=>rw[cK]at f;have:=fJ f.1;simp[show ¬Y<=s by omega]
   |false=>simp
  |false=>
   have g:¬a<Y:=λh=>by have:Nat.blt a Y=true:=NO h;rw[this]at d;cases d
   simp only[fE,cJ,KT r,jQ];by_cases Z:Y<=s
   .simp[Z]
   .rw[aD Z,aD Z];have:Nat.beq a s=false:=bq (by omega);simp[this]
def ak{Y s t:Nat}{B:List (Nat×Nat×Ob)}:∀(l:List (Nat×Nat×Ob)),jQ ((l.filter λe=>Nat.ble Y e.1)++B) s t=if Y<=s then(match jQ l s t with|some o=>some o|none=>jQ B s t)else jQ B s t
 |[]=>by simp[jQ]
 |(a,b,o)::r=>by
  rw[jm];cases d:Nat.ble Y a with
  |true=>
   have g:Y<=a:=rZ d;simp only[bV,jM,jQ,ak r];cases f:Nat.beq a s&&Nat.beq b t with
   |true=>rw[cK]at f;have:=fJ f.1;simp[show Y<=s by omega]
   |false=>simp
  |false=>
   have g:¬Y<=a:=λh=>by have:Nat.ble Y a=true:=NO h;rw[this]at d;cases d
   simp only[fE,cJ,ak r,jQ];by_cases Z:Y<=s
   .have:Nat.beq a s=false:=bq (by omega);simp[this]
   .rw[aD Z,aD Z]
def V2{u Y:Nat}{i:Id}:sZ u Y i=true↔i.1=u/\Y<=i.2.1:=by unfold sZ;rw[cK];exact⟨λh=>⟨fJ h.1,rZ h.2⟩,λh=>⟨by rw[h.1];exact zQ _,NO h.2⟩⟩
def x32{u Y:Nat}{m:Mem}(i:Id):(dt u Y m).get i=if sZ u Y i=true then none else m.get i:=by
 show jQ (iH (V1 u Y m.hp) i.1) i.2.1 i.2.2=_;rw[xdz];by_cases a:i.1=u
 .rw[aH a,KT];by_cases b:Y<=i.2.1
  .rw[aH b,aH (V2.2 ⟨a,b⟩)]
  .rw[aD b,aD (λh=>b (V2.1 h).2)];rfl
 .rw[aD a,aD (λh=>a (V2.1 h).1)];rfl
def yb3{u Y:Nat}{m d:Mem}(i:Id):(xjx u Y m d).get i=if sZ u Y i=true then m.get i else d.get i:=by
 show jQ (iH (yH _ d.hp u) i.1) i.2.1 i.2.2=_;rw[KU];by_cases a:i.1=u
 .rw[aH a,ak,KT];by_cases b:Y<=i.2.1
  .rw[aH b,aH (V2.2 ⟨a,b⟩),aH b];show _=jQ (iH m.hp i.1) i.2.1 i.2.2;rw[a];split
   .rename_i e;exact e.symm
   .rename_i e;exact e.symm
  .rw[aD b,aD (λh=>b (V2.1 h).2),aD b,<-a];rfl
 .rw[aD a,aD (λh=>a (V2.1 h).1)];rfl
def x38(o:xN P pol call){Z:FHs}{A:Nat->Hs}(w:Mono A)(x:Under Z A){u Y a:Nat}{j:AV}{b:List AV}{m t:Mem}{r:AV}(h:ec call u Y Z a j b m=some (r,t)):∃n,lD (gU P pol n) u Y (A n) a j b m.st=some (r,t.st):=by
 unfold ec at h;cases d:Nat.beq a 9 with
 |true=>
  have e:=fJ d;subst e;simp only[d,cond_true]at h;cases j with
  |clo f g=>
   simp only[xdo,cH,bH]at h;obtain⟨p,C,rfl,rfl⟩:=h;obtain⟨n,l⟩:=o _ _ _ _ _ _ _ Mono.nil Under.nil C;refine⟨n,?_⟩;unfold lD;rw[aH rfl];have y:wU u Y m.st=(dt u Y m).st:=by
    unfold wU Mem.st;simp only
    congr 1;funext i;exact(x32 i).symm
   have hn':gU P pol n [] f (b++g) (wU u Y m.st)=some (p.1,p.2.st):=(by rw[y];exact l);simp only[hn'];congr 2;unfold ND Mem.st;simp only
   congr 1;funext i;exact(yb3 i).symm
  |_=>cases h
 |false=>simp only[d,cond_false]at h;obtain⟨n,l⟩:=xhr o w x h;refine⟨n,?_⟩;unfold lD;rw[aD (λe=>by rw[e]at d;simp at d)];exact l
def FCtx.c(c:FCtx)(Z:Hs):Ctx:={f:=c.f,u:=c.u,nt:=c.nt,hs:=Z}
def ee{a:Array Oper}{o:Oper}{b:Nat->AV}:nE a o b=JP a o.guard b:=by
 unfold nE JP;cases o.guard with
 |none=>rfl
 |some g=>
  obtain⟨j,w⟩:=g;simp only
  cases(a[j]?).bind (·.dst)with
  |none=>rfl
  |some t=>simp only[sW];rfl
def ew{c:FCtx}{Z:Hs}{a:Option Tmp}{v:AV}{s:Fs}{k:Fs->Option R}{r:R}(h:MG c.nt a v s k=some r):∃b,put (c.c Z) a v s.s=some b.s/\k b=some r/\b.fc=s.fc/\b.m=s.m:=by
 unfold MG at h;split at h
 .rename_i d;cases e:Nat.blt d c.nt with
  |false=>rw[e]at h;cases h
  |true=>rw[e]at h;exact⟨_,by simp only[put];rw[aH (show d<(c.c Z).nt from rZ e)];rfl,h,rfl,rfl⟩
 .exact⟨s,rfl,h,rfl,rfl⟩
def xh2(X:xN P pol call){c:FCtx}{A:Nat->Hs}(Y:Mono A)(Z:Under c.hs A){C:Array Oper}{i:Nat}{o:Oper}(M:C[i]?=some o){s:Fs}{k:AV->Mem->Option R}{r:R}(h:iZ P pol call {c with fc:=s.fc} (c.u,s.fc+i,o.dst.getD 0) o s.sl s.m k=some r)(N:nE C o s.sl=true) :
    ∃v y,k v y=some r/\∃n,∀F,put (c.c (A n)) o.dst v {s with m:=y}.s=some F->jI P pol (gU P pol n) (c.c (A n)) C i s.s=some F:=by
 by_cases E:fX o=true
 .obtain⟨x,L,w,pos,g,j⟩:=o;cases L with
  |call cl=>
   obtain⟨l,a,b⟩:=cl;cases l with
   |value Q=>
    simp only[iZ]at h;rw[oZ]at h;obtain⟨⟨v,y⟩,D,J⟩:=h;obtain⟨n,E⟩:=x38 X Y Z D;refine⟨v,y,J,n,λF H=>?_⟩;unfold jI;rw[M];simp only
    have hw':nE C {dst:=x,op:=Op.call {callee:=Callee.value Q,args:=a,argTypes:=b},type:=w,pos:=pos,after:=g,guard:=j} s.s.sl=true:=N;rw[aH hw'];have hn':lD (gU P pol n) (c.c (A n)).u s.s.fc (c.c (A n)).hs (nm (pol (c.c (A n)).f (x.getD 0))) (ev s.s.sl Q) (a.toList.map (ev s.s.sl)) s.s.st=some (v,y.st):=E;rw[hn'];exact H
   |_=>simp[fX]at E
  |_=>simp[fX]at E
 .have hn':fX o=false:=(by simpa using E);by_cases W:∃rv d a t,o.op=.call ⟨.invoke rv d,a,t⟩
  .obtain⟨rv,d,a,t,K⟩:=W;obtain⟨x,L,w,pos,g,j⟩:=o;simp only at K;subst K;simp only[iZ,V3]at h;rw[oZ]at h;obtain⟨⟨v,y⟩,D,J⟩:=h;rw[oZ]at D;obtain⟨p,H,D⟩:=D;obtain⟨n,E⟩:=xhr X Y Z D;refine⟨v,y,J,n,λF O=>?_⟩;unfold jI;rw[M];simp only
   have hw':nE C {dst:=x,op:=Op.call {callee:=Callee.invoke rv d,args:=a,argTypes:=t},type:=w,pos:=pos,after:=g,guard:=j} s.s.sl=true:=N;rw[aH hw'];have hn':hY (gU P pol n) (c.c (A n)).hs (nm (pol (c.c (A n)).f (x.getD 0))) (.clo p.1 []) (p.2::a.toList.map (ev s.s.sl)) s.s.st=some (v,y.st):=E;have hp':pZ P (ev s.s.sl rv) d=some p:=H;simp only[hp',hn'];exact O
  obtain⟨v,y,D,J,h3⟩:=x37 hn' (λrv d a t e=>W ⟨rv,d,a,t,e⟩) h;refine⟨v,y,h3,0,λF H=>?_⟩;unfold jI;rw[M];simp only
  have hw':nE C o s.s.sl=true:=N;rw[aH hw'];have h1':aO P ((c.c (A 0)).u,s.s.fc+i,o.dst.getD 0) o s.s.sl s.s.st.aC=some (v,y.get):=D;have hp':put (c.c (A 0)) o.dst v {s.s with st:={s.s.st with aC:=y.get}}=some F:=(by have:({s with m:=y}:Fs).s={s.s with st:={s.s.st with aC:=y.get}}:=(by simp only[Fs.s,Mem.st,J]);rw[<-this];exact H);split
  .rename_i Q a t e;have:fX o=true:=(by simp only[fX,e]);rw[this]at hn';cases hn'
  .rename_i rv d a t e;exact absurd ⟨rv,d,a,t,e⟩ W
  .rw[h1'];exact hp'
def x4a(x:xN P pol call){c:FCtx}{A:Nat->Hs}(y:Mono A)(C:Under c.hs A){b:Array Oper}{i:Nat}{s:Fs}{k:Fs->Option R}{r:R}(h:dx P pol call c b i s k=some r):∃a,k a=some r/\a.fc=s.fc/\∃n,jI P pol (gU P pol n) (c.c (A n)) b i s.s=some a.s:=by
 unfold dx at h;split at h
 .rename_i e;exact⟨s,h,rfl,0,by unfold jI;rw[e]⟩
 .rename_i o e;split at h
  .rename_i j;obtain⟨v,D,d,n,l⟩:=xh2 x y C e h (by rw[ee,j];rfl);obtain⟨a,t,u,f,m⟩:=ew (Z:=A n) d;exact⟨a,u,f,n,l _ t⟩
  .rename_i g j;rw[oZ]at h;obtain⟨⟨v,D⟩,d,l⟩:=h;cases p:JP b (some g) s.sl with
   |true=>rw[p,cond_true]at d;obtain⟨F,H,t,n,u⟩:=xh2 x y C e d (by rw[ee,j];exact p);cases t;obtain⟨a,f,m,w,E⟩:=ew (Z:=A n) l;exact⟨a,m,w,n,u _ f⟩
   |false=>
    rw[p,cond_false]at d;cases d;obtain⟨a,f,m,w,E⟩:=ew (Z:=A 0) l;refine⟨a,m,w,0,?_⟩;unfold jI;rw[e];simp only
    rw[aD (by rw[show s.s.sl=s.sl from rfl,ee,j,p];simp)];exact f
def xhz(g:xN P pol call){c:FCtx}{A:Nat->Hs}(e:Mono A)(j:Under c.hs A){d:Array Oper}:∀{L:List Nat} {s:Fs} {k:Fs->Option R} {r:R},
    dz P pol call c d L s k=some r->∃f,k f=some r/\f.fc=s.fc/\∃n,iY P pol (gU P pol n) (c.c (A n)) d L s.s=some f.s
 |[],s,k,r,h=>⟨s,h,rfl,0,rfl⟩
 |i::L,s,k,r,h=>by obtain⟨o,p,t,a,u⟩:=x4a g e j h;obtain⟨w,x,y,b,C⟩:=xhz g e j p;refine⟨w,x,y.trans t,max a b,?_⟩;have l:=xct (gm (P:=P) (pol:=pol) (Nat.le_max_left a b)) (e a (max a b) (Nat.le_max_left ..)) u;have m:=ah (gm (P:=P) (pol:=pol) (Nat.le_max_right a b)) (e b (max a b) (Nat.le_max_right ..)) C;simp only[iY];have q1':jI P pol (gU P pol (max a b)) (c.c (A (max a b))) d i s.s=some o.s:=l;rw[q1'];exact m
def ZM{d:Id}{o:Oper}{i:Nat->AV}:u6 d o i=dV d o i:=by
 obtain⟨m,n,j,pos,g,h⟩:=o;unfold u6;cases n with
 |load t a=>rfl
 |store t a x=>rfl
 |slice t x r u w=>rfl
 |lookup t x ix ok=>rfl
 |call p=>
  obtain⟨e,l,b⟩:=p;simp only
  split
  .rename_i s x f;simp only[dV,f];rfl
  .rename_i s x f;simp only[dV,f];rfl
  .rfl
 |_=>rfl
def bz{b:Nat}{o:Oper}{g:Nat->AV}:T8 b o g=iJ b o g:=by
 obtain⟨j,l,h,pos,e,f⟩:=o;cases l with
 |call m=>
  obtain⟨a,i,d⟩:=m;cases a with
  |value n=>rfl
  |_=>rfl
 |_=>rfl
def x03{mode:Nat}{o:Oper}{sl:Nat->AV}:iJ mode o sl<=2:=by
 rw[<-bz];unfold T8 mkD cB;split
 .split
  .split
   .split
    .omega
    .split<;>omega
   .omega
  .omega
 .omega
def xjl{a:Nat}{b:Option Nat}{f:Id}{x y:Oper}{g:Nat->AV}(l:fX y=false)(h:cV b (u6 f y g) (T8 a x g)=true):tN a b f x y g=true:=by
 unfold tN;rw[ZM,bz]at h;rw[l];simp only[bW,gO];unfold cV at h;split at h
 .rename_i r o e;rw[e];simp only
  rw[cK]at h ⊢;refine⟨?_,?_⟩
  .have j:=h.1;cases b with
   |none=>rfl
   |some n=>simp only at j ⊢;rw[dG]at j ⊢;intro i m;exact fC (rZ (j i m))
  .have d:=h.2;rw[kT,cK]at d ⊢;rcases d with d|⟨d,h3⟩
   .exact Or.inl (by rw[fJ d];rfl)
   .exact Or.inr ⟨by rw[fJ d];rfl,h3⟩
 .cases h
def xx4{c:FCtx}{Z:Hs}{Y a:Nat}{d:Array Oper}{i j:Nat}{l:Nat->AV}(h:LJ pol c.f c.u Y a d i j l=true):pairOK pol (c.c Z) Y a d i j l=true:=by
 unfold LJ at h;unfold pairOK;split at h
 .rename_i x y m n;rw[m,n];simp only
  rw[cK]at h ⊢;refine⟨h.1,?_⟩;rw[kT];right;have b:=h.2;split at b
  .rename_i e;rw[aH e];rw[cK]at b;exact xjl (by simpa using b.1) b.2
  .rename_i e;rw[aD e];split at b
   .rename_i g;rw[aH g];exact xjl (by simpa using e) b
   .rename_i g;rw[aD g];rw[ZM,ZM]at b;exact b
 .cases h
def xqk{c:FCtx}{Z:Hs}{Y a:Nat}{b:Array Oper}{i j:Nat}{d:Nat->AV}(h:L6 pol c.f b i j=true):pairOK pol (c.c Z) Y a b i j d=true:=by
 unfold L6 at h;unfold pairOK;split at h
 .rename_i x y e g;rw[e,g];simp only
  rw[cK]at h ⊢;refine⟨h.1,?_⟩;rw[kT];exact Or.inl h.2
 .cases h
def xpz{e:Op}(h:kJ e=true):tD e=true:=by
 cases e with
 |call c=>
  obtain⟨a,f,d⟩:=c;cases a with
  |builtin b=>cases b<;>simp[kJ]at h<;>rfl
  |_=>simp[kJ]at h
 |_=>first|(simp[kJ]at h;done)|rfl
def xcz{f:Nat}{b:Array Oper}{i:Nat}{x:Oper}{y:Op}(e:b[i]?=some x)(h:CD pol f b i=true)(d:kJ y=true):uG (pol f (x.dst.getD 0)) x y=true:=by
 unfold CD at h;rw[e]at h;simp only at h;unfold uG;rw[cK]at h ⊢;refine⟨h.1,?_⟩;have g:zD y=true:=d;have j:=xpz d;rw[j,g];have a:=h.2;simp only[kT,cK,gO,OY]at a ⊢;rcases a with a|a
 .exact .inl (.inr a)
 .exact .inr a
def BU{e:Id}{o:Oper}{l:Nat->AV}(h:kJ o.op=true):dV e o l=(some [],some []):=by
 obtain⟨m,n,i,pos,f,g⟩:=o;cases n with
 |call p=>
  obtain⟨a,j,d⟩:=p;cases a with
  |builtin b=>cases b<;>first|rfl|(simp[kJ]at h)
  |_=>simp[kJ]at h
 |_=>first|rfl|(simp[kJ]at h)
def xcb{id0:Id}{o:Oper}{sl:Nat->AV}(h:JX o.op=true):∃r,dV id0 o sl=(some r,some []):=by
 unfold JX at h;rw[kT]at h;rcases h with h|h
 .exact⟨[],BU h⟩
 .obtain⟨f,g,e,pos,b,d⟩:=o;cases g with
  |load t a=>simp only[dV];split<;>exact⟨_,rfl⟩
  |slice t x i j l=>simp only[dV];split<;>exact⟨_,rfl⟩
  |lookup t x ix ok=>simp only[dV];split<;>exact⟨_,rfl⟩
  |_=>simp at h
def xqe{c:FCtx}{Z:Hs}{Y m:Nat}{g:Array Oper}{i j:Nat}{a:Nat->AV}(h:CB g i j=true)(t:∀x y,g[i]?=some x->g[j]?=some y->(fX x=true->kJ y.op=true->1<=iJ (nm (pol c.f (x.dst.getD 0))) x a)/\(fX y=true->kJ x.op=true->1<=iJ (nm (pol c.f (y.dst.getD 0))) y a)) :
    pairOK pol (c.c Z) Y m g i j a=true:=by
 unfold CB at h;unfold pairOK;split at h
 .rename_i x y C D;obtain⟨w,A⟩:=t x y C D;rw[C,D];simp only
  rw[cK]at h ⊢;refine⟨h.1,?_⟩;rw[kT];right;have b:∀{mode:Nat} {x:Oper},1<=iJ mode x a->(iJ mode x a == 2||(iJ mode x a == 1&&([]:List Id).isEmpty))=true:=(by intro mode x M;have:=x03 (mode:=mode) (o:=x) (sl:=a);have:iJ mode x a=1\/iJ mode x a=2:=(by omega);rcases this with e|e<;>rw[e]<;>rfl);have l:=h.2;rw[kT]at l;rcases l with l|l
  .rw[cK,cK]at l;obtain⟨⟨r,J⟩,d⟩:=l;rw[aD (by simpa using r),aD (by simpa using J)];rw[kT,kT,cK]at d;rcases d with (d|d)|⟨d,n⟩
   .rw[BU d];rfl
   .rw[BU d];unfold aY;split<;>simp_all
   .obtain⟨P,K⟩:=xcb (id0:=((c.c Z).u,Y+i,x.dst.getD 0)) (sl:=a) d;obtain⟨Q,L⟩:=xcb (id0:=((c.c Z).u,Y+j,y.dst.getD 0)) (sl:=a) n;rw[K,L];unfold aY;split
    .rfl
    .rfl
    .rename_i E F;cases E;cases F;simp[kX]
    .rename_i N O H;exact(H _ _ _ _ rfl rfl).elim
  .unfold xe7 at l;rw[kT,cK,cK,cK,cK]at l;rcases l with ⟨⟨d,n⟩,p⟩|⟨⟨d,n⟩,p⟩
   .rw[aH d];unfold tN;rw[n,BU p];simp only[gO,jX,lJ];exact b (w d p)
   .have r:fX x=false:=(by simpa using n);rw[aD (by rw[r];simp),aH d];unfold tN;rw[r,BU p];simp only[bW,gO];exact b (A d p)
 .cases h
def ck{f:Nat}{b:Array Oper}{i:Nat->AV}:∀{l:List Nat},D1 pol f b i l=true->∀j∈l,∃o,b[j]?=some o/\1<=iJ (nm (pol f (o.dst.getD 0))) o i
 |[],_,j,d=>by cases d
 |a::l,h,j,d=>by
  simp only[D1,cK]at h;rcases eD.mp d with rfl|d
  .have g:=h.1;split at g
   .rename_i o e;rw[bz]at g;exact⟨o,e,rZ g⟩
   .cases g
  .exact ck h.2 j d
def xii{f u Y a:Nat}{b:Array Oper}{e:Nat->AV}:∀{l:List (Nat×Nat)},xC pol f u Y a b e l=true->∀p∈l,LJ pol f u Y a b p.1 p.2 e=true
 |[],_,p,d=>by cases d
 |(i,j)::l,h,p,d=>by
  simp only[xC,cK]at h;rcases eD.mp d with rfl|d
  .exact h.1
  .exact xii h.2 p d
def x4y{c:FCtx}{Z:Hs}{Y g:Nat}{d:Array Oper}{K:Nat->AV}(C:KE P d=true)(h2:D1 pol c.f d K (FO pol c.f d)=true)(h3:xC pol c.f c.u Y g d K (V8 pol c.f d)=true) :
    F2 P pol (c.c Z) Y g d K=true:=by
 unfold F2;unfold KE at C;simp only at C ⊢;rw[dG]at C ⊢;intro j J;have t:=C j J;rw[cK,cK]at t ⊢;refine⟨t.1,?_⟩;have h4:=t.2;rw[dG]at h4 ⊢;intro i L;rw[cK];refine⟨h4 i L,?_⟩;rw[kT];by_cases H:((vG d).getD j []).contains i=true
 .exact Or.inl H
 .right;by_cases l:L6 pol c.f d i j=true
  .exact xqk l
  by_cases w:CB d i j=true
  .refine xqe w λx y m n=>?_
   have D:x.apart d y=true:=(by unfold CB at w;rw[m,n]at w;simp only[cK]at w;exact w.1);have N:kJ y.op=true->CD pol c.f d i=false:=λp=>by rw[kU];intro M;apply l;unfold L6;rw[m,n];simp only[D,xcz m M p,OX,gC]
   have O:kJ x.op=true->CD pol c.f d j=false:=λr=>by rw[kU];intro M;apply l;unfold L6;rw[m,n];simp only[D,xcz n M r,OY,gC]
   have hij:i<j:=iC.mp L;have hjn:j<d.size:=iC.mp J;have E:((vG d).getD i []).contains j=false:=(by have:=C i (iC.mpr (by omega));rw[cK,cK]at this;have h5:=this.1.2;rw[dG]at h5;rw[kU];intro hc;have:=h5 j (jo.mp hc);have:=sN this;omega);have hn:∀o,fX o=true->kJ o.op=true->False:=by
    intro o a b;obtain⟨dst,op,type,pos,W,X⟩:=o;cases op with
    |call cl=>obtain⟨h,args,A⟩:=cl;cases h<;>simp[fX,kJ]at a b
    |_=>simp[fX]at a
   refine⟨λr p=>?_,λp r=>?_⟩
   .obtain⟨o,F,e4⟩:=ck h2 i (by
     unfold FO
     rw[gW]
     refine⟨?_,by rw[N p];rfl⟩
     unfold cj
     simp only[gW,iC]
     refine⟨by omega,?_⟩
     rw[cK,m]
     refine⟨r,?_⟩
     rw[pB]
     refine⟨j,J,?_⟩
     rw[n]
     have Q:fX y=false:=by
      rw[kU];exact λe=>hn y e p
     simp only[Q,p,E,bW,gO]
     simpa using H)
    rw[m]at F;cases F;exact e4
   .obtain⟨o,F,e4⟩:=ck h2 j (by
     unfold FO
     rw[gW]
     refine⟨?_,by rw[O r];rfl⟩
     unfold cj
     simp only[gW,iC]
     refine⟨by omega,?_⟩
     rw[cK,n]
     refine⟨p,?_⟩
     rw[pB]
     refine⟨i,iC.mpr (by omega),?_⟩
     rw[m]
     have R:fX x=false:=by
      rw[kU];exact λe=>hn x e r
     simp only[R,r,E,bW,gO,d8]
     simpa using H)
    rw[n]at F;cases F;exact e4
  .refine xx4 (xii h3 (i,j) ?_);unfold V8;rw[gW];refine⟨?_,by simpa using l⟩;unfold xih;simp only[lS,fK,gW];refine⟨j,J,i,⟨L,?_⟩,rfl⟩;simp only[xlg]at w H;simp only[w,H,Bool.or_self,bW]
def x4i(F:xN P pol call){c:FCtx}{A:Nat->Hs}(H:Mono A)(J:Under c.hs A){d:Array Oper}{i:Bool}{s:Fs}{k:Fs->Option R}{r:R}(h:eb P pol call c d i s k=some r):∃w,k w=some r/\∃n,rU P pol (gU P pol n) (c.c (A n)) d i s.s=some w.s:=by
 unfold eb at h;obtain⟨j,g,K,n,E⟩:=xhz F H J h;cases i with
 |false=>refine⟨{j with fc:=s.fc+d.size},g,n,?_⟩;unfold rU;rw[E];rfl
 |true=>
  rw[cond_true]at g;cases l:yW P d j.sl with
  |true=>rw[l]at g;cases g
  |false=>
  cases D:KE P d with
  |false=>rw[l,D]at g;cases g
  |true=>
   rw[l,D,bW,gO,cond_true]at g;have t:D1 pol c.f d j.sl (FO pol c.f d)=true->xC pol c.f c.u s.fc s.m.next d j.sl (V8 pol c.f d)=true->k {j with fc:=s.fc+d.size}=some r->∃w,k w=some r/\∃n,rU P pol (gU P pol n) (c.c (A n)) d true s.s=some w.s:=by
    intro a b e;refine⟨_,e,n,?_⟩;unfold rU;rw[E];simp only
    have C:F2 P pol (c.c (A n)) s.s.fc s.s.st.next d j.s.sl=true:=x4y D a b;rw[C,show yW P d j.s.sl=false from l];rfl
   split at g
   .rename_i x;split at g
    .rename_i y;exact t (by rw[x];rfl) (by rw[y];rfl) g
    .rename_i p q y;cases o:xC pol c.f c.u s.fc s.m.next d j.sl (p::q)with
     |false=>rw[o]at g;cases g
     |true=>rw[o]at g;exact t (by rw[x];rfl) (by rw[y];exact o) g
   .rename_i a b x;cases o:(D1 pol c.f d j.sl (a::b)&&xC pol c.f c.u s.fc s.m.next d j.sl (V8 pol c.f d))with
    |false=>rw[o]at g;cases g
    |true=>rw[o]at g;rw[cK]at o;exact t (by rw[x];exact o.1) o.2 g
end Go.Ix
