import Derived.Test.YtjngclcijnpooaaGreatDoorFxSound
import Derived.Test.YtjngclcijnpooaaGreatDoorFxRules
set_option linter.all false
namespace Go.Ix
variable{P:Program}{pol:Pol}{N:Nat}{call:aJ}{R:Type}
def I7(X:Fs->Option R)(E:Nat->Fs->Option R)(T:Fs->Option R):Out->Fs->Option R
 | .normal=>X
 | .exit i=>E i
 | .ret=>T
def Runs(P:Program)(pol:Pol)(A:Nat->Hs)(c:FCtx)(a:Code)(s:S)(o:Out)(b:S):Prop:=∃n,ix P pol n (c.c (A n)) a s=some (o,b)
def Runs.at{A:Nat->Hs}(e:Mono A){c:FCtx}{a:Code}{s d:S}{o:Out}{n m:Nat}(h:ix P pol n (c.c (A n)) a s=some (o,d))(b:n<=m):ix P pol m (c.c (A m)) a s=some (o,d):=
 rB b (c.c (A n)) (A m) a s (o,d) (e n m b) h
def dl:∀(f:List Tmp) (b d:List AV) (e:Nat->AV),d.length=f.length->V0 f b.length (b++d) e=mF f d e
 |[],b,[],e,_=>rfl
 |[],b,_::_,e,h=>by simp at h
 |p::f,b,[],e,h=>by simp at h
 |p::f,b,a::q,e,h=>by simp only[V0,mF];have:(b++a::q).getD b.length U=a:=(by simp[fU]);rw[this];have:=dl f (b++[a]) q (tM e p a) (by simpa using h);rw[eA,oI]at this;exact this
noncomputable def wL(P:Program)(pol:Pol)(n:Nat)(c:Ctx)(a:Array Tmp)(b e:Code)(f:Nat->AV):List AV->St->Option St:=λd st=>
 if d.length=a.size/\a.all (· < c.nt)then
  let c':={c with u:=st.next}
  let g:S:={sl:=mF a.toList d f,st:={st with next:=st.next+1},fc:=0}
  match ix P pol n c' b g with
  |some (.normal,h)=>match ix P pol n c' e h with
   |some (.normal,i)=>some i.st
   |_=>none
  |_=>none
 else none
def x0l{n m:Nat}(h:n<=m){c:Ctx}{d:Hs}(j:HLe c.hs d){a:Array Tmp}{b f:Code}{l:Nat->AV}{g:List AV}{st i:St}(e:wL P pol n c a b f l g st=some i) :
    wL P pol m {c with hs:=d} a b f l g st=some i:=by
 unfold wL at e ⊢;simp only at e ⊢;split at e
 .rename_i r;rw[aF r];split at e
  .rename_i x t;have o:=rB h {c with u:=st.next} d _ _ _ j t;simp only at o;rw[o];simp only
   split at e
   .rename_i y w;have p:=rB h {c with u:=st.next} d _ _ _ j w;simp only at p;rw[p];exact e
   .cases e
  .cases e
 .cases e
theorem xd7{n:Nat}{c:Ctx}{f:Operand}{a:Array Tmp}{b d:Code}{s:S}:ix P pol (n+1) c (.rangeFunc f a b d) s=(match ev s.sl f with
 | .clo g h=>
   if oB [] d then
    match gH P pol n (((c.u,s.fc,1),mP (ix P pol n) c (c.u,s.fc,1) a b d s.sl)::c.hs) g (.yld (c.u,s.fc,1)::h) {s.st with aC:=bH s.st.aC (c.u,s.fc,1) (some (.lp none))}with
    |some (_,e)=>match e.aC (c.u,s.fc,1)with
     |some (.lp none)=>some (.normal,{s with st:=e,fc:=s.fc+1})
     |some (.lp (some o))=>some (o,{s with st:=e,fc:=s.fc+1})
     |_=>none
    |none=>none
   else match gH P pol n (((c.u,s.fc,0),wL P pol n c a b d s.sl)::c.hs) g (.yld (c.u,s.fc,0)::h) s.st with
   |some (_,e)=>some (.normal,{s with st:=e,fc:=s.fc+1})
   |none=>none
 |_=>none):=rfl
def xdj{id:Id}{m:Mem}(h:T2 id m=true):m.get id=some (.lp none):=by
 unfold T2 at h;split at h
 .assumption
 .cases h
def xa5{id:Id}{m b:Mem}(h:rX id m=some b):m.get id=some (.lp none)/\b=m:=by
 unfold rX at h;cases a:T2 id m with
 |false=>rw[a]at h;cases h
 |true=>rw[a]at h;cases h;exact⟨xdj a,rfl⟩
def xa4{id:Id}{o:Out}{m b:Mem}(h:qN id o m=some b):m.get id=some (.lp none)/\b=m.set id (.lp (some o)):=by
 unfold qN at h;cases a:T2 id m with
 |false=>rw[a]at h;cases h
 |true=>rw[a]at h;cases h;exact⟨xdj a,rfl⟩
def xnf(m:Mem)(id:Id)(o:Ob):(m.new id o).st={m.st with aC:=bH m.st.aC id (some o)}:=by show({aC:=(m.new id o).get,next:=m.next}:St)=_;rw[Mem.get_new'];rfl
def IM(m:Mem)(id:Id)(o:Ob):(m.set id o).st={m.st with aC:=bH m.st.aC id (some o)}:=by show({aC:=(m.set id o).get,next:=m.next}:St)=_;rw[Mem.get_set'];rfl
def sR(Z:xE P pol call):∀(code:Code) {R:Type} {c:FCtx} {A:Nat->Hs} {X:Fs->Option R} {E:Nat->Fs->Option R} {T:Fs->Option R} {s:Fs} {r:R},Mono A->Under c.hs A ->
    fT P pol N call code R c X E T s=some r->∃o K,I7 X E T o K=some r/\Runs P pol A c code s.s o K.s
 | .skip,R,c,A,X,E,T,s,r,D,L,h=>⟨.normal,s,h,1,rfl⟩
 | .region id ops draw,R,c,A,X,E,T,s,r,D,L,h=>by obtain⟨K,Q,n,J⟩:=x01 Z D L h;refine⟨.normal,K,Q,n+1,?_⟩;have h3:=xbo (dd (P:=P) (pol:=pol) (bO n)) (D n (n+1) (by omega)) J;show(rC P pol (gH P pol n) (c.c (A (n+1))) ops draw s.s).map (λK=>(Out.normal,K))=_;rw[show rC P pol (gH P pol n) (c.c (A (n+1))) ops draw s.s=some K.s from h3];rfl
 | .seq a b,R,c,A,X,E,T,s,r,D,L,h=>by
   obtain⟨o,H,Q,l,J⟩:=sR Z a D L h;cases o with
   |normal=>
    obtain⟨o2,F,h3,C,h4⟩:=sR Z b D L (show fT P pol N call b R c X E T H=some r from Q);refine⟨o2,F,h3,max l C+1,?_⟩;have O:=Runs.at D J (show l<=max l C+1 by omega);have q2:=Runs.at D h4 (show C<=max l C+1 by omega)
    show(match ix P pol (max l C+1) (c.c (A (max l C+1))) a s.s with
     |some (.normal,K)=>ix P pol (max l C+1) (c.c (A (max l C+1))) b K
     |r=>r)=_
    rw[O];exact q2
   |exit i=>
    refine⟨.exit i,H,Q,l+1,?_⟩;have O:=Runs.at D J (show l<=l+1 by omega)
    show(match ix P pol (l+1) (c.c (A (l+1))) a s.s with
     |some (.normal,K)=>ix P pol (l+1) (c.c (A (l+1))) b K
     |r=>r)=_
    rw[O]
   |ret=>
    refine⟨.ret,H,Q,l+1,?_⟩;have O:=Runs.at D J (show l<=l+1 by omega)
    show(match ix P pol (l+1) (c.c (A (l+1))) a s.s with
     |some (.normal,K)=>ix P pol (l+1) (c.c (A (l+1))) b K
     |r=>r)=_
    rw[O]
 | .cond x a b,R,c,A,X,E,T,s,r,D,L,h=>by
   have h':aK (ev s.sl x) (fT P pol N call a R c X E T s) (fT P pol N call b R c X E T s)=some r:=h;unfold aK at h';split at h'
   .rename_i e;obtain⟨o,H,Q,l,J⟩:=sR Z a D L h';refine⟨o,H,Q,l+1,?_⟩;have O:=Runs.at D J (show l<=l+1 by omega)
    show(match ev s.s.sl x with
     | .sc (.bool true)=>ix P pol (l+1) (c.c (A (l+1))) a s.s
     | .sc (.bool false)=>ix P pol (l+1) (c.c (A (l+1))) b s.s
     |_=>none)=_
    rw[show ev s.s.sl x=.sc (.bool true)from e];exact O
   .rename_i e;obtain⟨o,H,Q,l,J⟩:=sR Z b D L h';refine⟨o,H,Q,l+1,?_⟩;have O:=Runs.at D J (show l<=l+1 by omega)
    show(match ev s.s.sl x with
     | .sc (.bool true)=>ix P pol (l+1) (c.c (A (l+1))) a s.s
     | .sc (.bool false)=>ix P pol (l+1) (c.c (A (l+1))) b s.s
     |_=>none)=_
    rw[show ev s.s.sl x=.sc (.bool false)from e];exact O
   .cases h'
 | .block id b,R,c,A,X,E,T,s,r,D,L,h=>by
   obtain⟨o,H,Q,l,J⟩:=sR Z b D L h;have O:=Runs.at D J (show l<=l+1 by omega);have key:∀o':Out,(match (some (o,H.s):Option (Out×S))with|some (Out.exit id',K)=>if id'=id then some (Out.normal,K)else some (Out.exit id',K)|r=>r)=some (o',H.s)->Runs P pol A c (.block id b) s.s o' H.s:=by
    intro o' e;refine⟨l+1,?_⟩
    show(match ix P pol (l+1) (c.c (A (l+1))) b s.s with
     |some (Out.exit id',K)=>if id'=id then some (Out.normal,K)else some (Out.exit id',K)
     |r=>r)=_
    rw[O];exact e
   cases o with
   |normal=>exact⟨.normal,H,Q,key _ rfl⟩
   |ret=>exact⟨.ret,H,Q,key _ rfl⟩
   |exit i=>
    have h1':(bif Nat.beq i id then X H else E i H)=some r:=Q;by_cases hi:i=id
    .subst hi;rw[show Nat.beq i i=true from by simp]at h1';exact⟨.normal,H,h1',key _ (by simp)⟩
    .rw[show Nat.beq i id=false from by rw[kI];intro e;exact hi (fE e)]at h1';exact⟨.exit i,H,h1',key _ (by simp[hi])⟩
 | .loop b,R,c,A,X,E,T,s,r,D,L,h=>by
   have key:∀(j:Nat) (s:Fs),T6 (λrec=>fT P pol N call b R c rec E T) j s=some r->∃o K,I7 X E T o K=some r/\Runs P pol A c (.loop b) s.s o K.s:=by
    intro j;induction j with
    |zero=>intro s h;simp[T6]at h
    |succ j ih=>
     intro s h;obtain⟨o,H,Q,l,J⟩:=sR Z b D L (show fT P pol N call b R c (T6 (λrec=>fT P pol N call b R c rec E T) j) E T s=some r from h);cases o with
     |normal=>
      obtain⟨o2,F,h3,C,h4⟩:=ih H Q;refine⟨o2,F,h3,max l C+1,?_⟩;have O:=Runs.at D J (show l<=max l C+1 by omega);have q2:=rB (show C<=max l C by omega) (c.c (A C)) (A (max l C+1)) _ _ _ (D C (max l C+1) (by omega)) h4
      show(match ix P pol (max l C+1) (c.c (A (max l C+1))) b s.s with
       |some (.normal,K)=>ix P pol (max l C) (c.c (A (max l C+1))) (.loop b) K
       |r=>r)=_
      rw[O];exact q2
     |exit i=>
      refine⟨.exit i,H,Q,l+1,?_⟩;have O:=Runs.at D J (show l<=l+1 by omega)
      show(match ix P pol (l+1) (c.c (A (l+1))) b s.s with
       |some (.normal,K)=>ix P pol l (c.c (A (l+1))) (.loop b) K
       |r=>r)=_
      rw[O]
     |ret=>
      refine⟨.ret,H,Q,l+1,?_⟩;have O:=Runs.at D J (show l<=l+1 by omega)
      show(match ix P pol (l+1) (c.c (A (l+1))) b s.s with
       |some (.normal,K)=>ix P pol l (c.c (A (l+1))) (.loop b) K
       |r=>r)=_
      rw[O]
   exact key N s h
 | .exit id,R,c,A,X,E,T,s,r,D,L,h=>⟨.exit id,s,h,1,rfl⟩
 | .ret,R,c,A,X,E,T,s,r,D,L,h=>⟨.ret,s,h,1,rfl⟩
 | .rangeFunc f d t w,R,c,A,X,E,T,s,r,D,L,h=>by
   cases hg:ev s.sl f with
   |clo g W=>
    have e:=hg;cases hlp:oB [] w with
    |true=>
     have h':(call (((c.u,s.fc,1),vN c.nt d.size (λu=>fT P pol N call t Mem {c with u:=u} (λH=>(rX (c.u,s.fc,1) H.m).bind λ_=>
      fT P pol N call w Mem {c with u:=u} (λF=>rX (c.u,s.fc,1) F.m) (λi F=>qN (c.u,s.fc,1) (.exit i) F.m) (λF=>qN (c.u,s.fc,1) .ret F.m) H) iV jY) d.toList s.sl)::c.hs)
      g (.yld (c.u,s.fc,1)::W) (s.m.new (c.u,s.fc,1) (.lp none))).bind (λp=>YE (c.u,s.fc,1) p.2 (X {s with m:=p.2,fc:=s.fc+1}) (T {s with m:=p.2,fc:=s.fc+1}) λi=>E i {s with m:=p.2,fc:=s.fc+1})=some r:=by
      have J:=h
      simp only[fT,hg,tV,hlp,cond_true]at J
      exact J
     rw[oF]at h';obtain⟨⟨v,m'⟩,Q,J⟩:=h';have hm':Mono λk=>((c.u,s.fc,1),mP (ix P pol k) (c.c (A (k+1))) (c.u,s.fc,1) d t w s.sl)::A (k+1):=by intro i j hij;exact⟨rfl,λy st st' e=>xev (c:=c.c (A (i+1))) (rB hij) (D (i+1) (j+1) (by omega)) e,D (i+1) (j+1) (by omega)⟩
     have hu':Under (((c.u,s.fc,1),vN c.nt d.size (λu=>fT P pol N call t Mem {c with u:=u} (λH=>(rX (c.u,s.fc,1) H.m).bind λ_=>
      fT P pol N call w Mem {c with u:=u} (λF=>rX (c.u,s.fc,1) F.m) (λi F=>qN (c.u,s.fc,1) (.exit i) F.m) (λF=>qN (c.u,s.fc,1) .ret F.m) H) iV jY) d.toList s.sl)::c.hs)
      λk=>((c.u,s.fc,1),mP (ix P pol k) (c.c (A (k+1))) (c.u,s.fc,1) d t w s.sl)::A (k+1):=by
      intro id h0 M y m m2 e0
      simp only[sQ]at M
      by_cases hi:(c.u,s.fc,1)=id
      .rw[aF hi]at M
       cases M
       unfold vN at e0
       cases hb:(Nat.beq y.length d.size&&d.toList.all (Nat.blt · c.nt))with
       |false=>rw[hb]at e0;cases e0
       |true=>
        rw[hb,cond_true]at e0
        rw[cI]at hb
        have hl:y.length=d.size:=fE hb.1
        obtain⟨o1,H,g1,l,g2⟩:=sR Z t (c:={c with u:=m.next}) D L e0
        have ho1:o1=.normal:=by cases o1<;>first|rfl|(simp[I7,iV,jY]at g1)
        subst ho1
        have g1':(rX (c.u,s.fc,1) H.m).bind (λ_=>fT P pol N call w Mem {c with u:=m.next} (λF=>rX (c.u,s.fc,1) F.m) (λi F=>qN (c.u,s.fc,1) (.exit i) F.m) (λF=>qN (c.u,s.fc,1) .ret F.m) H)=some m2:=g1
        rw[oF]at g1'
        obtain⟨m1,k1,k2⟩:=g1'
        obtain⟨k3,-⟩:=xa5 k1
        obtain⟨o2,F,g3,C,g4⟩:=sR Z w (c:={c with u:=m.next}) D L k2
        have hall:d.all (λx=>decide (x<c.nt))=true:=by
         rw[<-Array.all_toList,dJ]
         have:=hb.2
         rw[dJ]at this
         intro x hx
         exact eX (rK (this x hx))
        have O:=rB (P:=P) (pol:=pol) (show l<=max l C by omega) _ (A (max l C+1)) _ _ _ (D l (max l C+1) (by omega)) g2
        have q2:=rB (P:=P) (pol:=pol) (show C<=max l C by omega) _ (A (max l C+1)) _ _ _ (D C (max l C+1) (by omega)) g4
        have hbd:V0 d.toList 0 y s.sl=mF d.toList y s.sl:=dl d.toList [] y s.sl (by simpa using hl)
        have q1':ix P pol (max l C) {c.c (A (max l C+1))with u:=m.st.next} t {sl:=mF d.toList y s.sl,st:={m.st with next:=m.st.next+1},fc:=0}=some (.normal,H.s):=by
         rw[<-hbd];exact O
        have q2':ix P pol (max l C) {c.c (A (max l C+1))with u:=m.st.next} w H.s=some (o2,F.s):=q2
        have hob1:H.s.st.aC (c.u,s.fc,1)=some (.lp none):=k3
        refine⟨max l C,mP (ix P pol (max l C)) (c.c (A (max l C+1))) (c.u,s.fc,1) d t w s.sl,by simp only[oC,aF hi],?_⟩
        unfold mP
        rw[aF ⟨hl,hall⟩]
        rw[q1']
        simp only[hob1]
        rw[q2']
        cases o2 with
        |normal=>
         obtain⟨g5,g6⟩:=xa5 (show rX (c.u,s.fc,1) F.m=some m2 from g3)
         have Y:F.s.st.aC (c.u,s.fc,1)=some (.lp none):=g5
         simp only[Y]
         rw[g6]
         rfl
        |exit i=>
         obtain⟨g5,g6⟩:=xa4 (show qN (c.u,s.fc,1) (.exit i) F.m=some m2 from g3)
         have Y:F.s.st.aC (c.u,s.fc,1)=some (.lp none):=g5
         simp only[Y]
         rw[g6,IM]
         rfl
        |ret=>
         obtain⟨g5,g6⟩:=xa4 (show qN (c.u,s.fc,1) .ret F.m=some m2 from g3)
         have Y:F.s.st.aC (c.u,s.fc,1)=some (.lp none):=g5
         simp only[Y]
         rw[g6,IM]
         rfl
      .rw[aB hi]at M
       obtain⟨n,g,g1,g2⟩:=Under.shift D L id h0 M y m m2 e0
       exact⟨n,g,by simp only[oC];rw[aB hi];exact g1,g2⟩
     obtain⟨n,hn⟩:=Z _ _ _ _ _ _ _ hm' hu' Q;have hn':gH P pol n ((((c.c (A (n+1))).u,s.s.fc,1),mP (ix P pol n) (c.c (A (n+1))) ((c.c (A (n+1))).u,s.s.fc,1) d t w s.s.sl)::(c.c (A (n+1))).hs) g (.yld ((c.c (A (n+1))).u,s.s.fc,1)::W) {s.s.st with aC:=bH s.s.st.aC ((c.c (A (n+1))).u,s.s.fc,1) (some (.lp none))}=some (v,m'.st):=(by rw[xnf]at hn;exact hn);have fin:∀o:Out,(m'.get (c.u,s.fc,1)=some (.lp none)/\o=.normal\/m'.get (c.u,s.fc,1)=some (.lp (some o)))->Runs P pol A c (.rangeFunc f d t w) s.s o ({s with m:=m',fc:=s.fc+1}:Fs).s:=by
      intro o ho;refine⟨n+1,?_⟩;rw[xd7,show ev s.s.sl f=.clo g W from hg];simp only[hlp,cM];rw[hn'];simp only
      rcases ho with ⟨ho,rfl⟩|ho
      .rw[show m'.st.aC ((c.c (A (n+1))).u,s.s.fc,1)=some (.lp none)from ho];rfl
      .rw[show m'.st.aC ((c.c (A (n+1))).u,s.s.fc,1)=some (.lp (some o))from ho];rfl
     simp only[YE]at J;split at J
     .rename_i ho;exact⟨.normal,_,J,fin _ (.inl ⟨ho,rfl⟩)⟩
     .rename_i ho;exact⟨.ret,_,J,fin _ (.inr ho)⟩
     .rename_i i ho;exact⟨.exit i,_,J,fin _ (.inr ho)⟩
     .cases J
    |false=>
     have h':(call (((c.u,s.fc,0),vN c.nt d.size (λu=>fT P pol N call t Mem {c with u:=u} (fT P pol N call w Mem {c with u:=u} (λF=>some F.m) iV jY) iV jY) d.toList s.sl)::c.hs)
      g (.yld (c.u,s.fc,0)::W) s.m).bind (λp=>X {s with m:=p.2,fc:=s.fc+1})=some r:=by
      have J:=h
      simp only[fT,hg,tV,hlp,cond_false]at J
      exact J
     rw[oF]at h';obtain⟨⟨v,m'⟩,Q,J⟩:=h';have hm':Mono λk=>((c.u,s.fc,0),wL P pol k (c.c (A (k+1))) d t w s.sl)::A (k+1):=by intro i j hij;exact⟨rfl,λy st st' e=>x0l hij (D (i+1) (j+1) (by omega)) e,D (i+1) (j+1) (by omega)⟩
     have hu':Under (((c.u,s.fc,0),vN c.nt d.size (λu=>fT P pol N call t Mem {c with u:=u} (fT P pol N call w Mem {c with u:=u} (λF=>some F.m) iV jY) iV jY) d.toList s.sl)::c.hs)
      λk=>((c.u,s.fc,0),wL P pol k (c.c (A (k+1))) d t w s.sl)::A (k+1):=by
      intro id h0 M y m m2 e0;simp only[sQ]at M;by_cases hi:(c.u,s.fc,0)=id
      .rw[aF hi]at M;cases M;unfold vN at e0;cases hb:(Nat.beq y.length d.size&&d.toList.all (Nat.blt · c.nt))with
       |false=>rw[hb]at e0;cases e0
       |true=>
        rw[hb,cond_true]at e0;rw[cI]at hb;have hl:y.length=d.size:=fE hb.1;obtain⟨o1,H,g1,l,g2⟩:=sR Z t (c:={c with u:=m.next}) D L e0;have ho1:o1=.normal:=(by cases o1<;>first|rfl|(simp[I7,iV,jY]at g1));subst ho1;obtain⟨o2,F,g3,C,g4⟩:=sR Z w (c:={c with u:=m.next}) D L (show fT P pol N call w Mem {c with u:=m.next} (λF=>some F.m) iV jY H=some m2 from g1);have ho2:o2=.normal:=(by cases o2<;>first|rfl|(simp[I7,iV,jY]at g3));subst ho2;have g5:F.m=m2:=(by simpa[I7]using g3);subst g5;refine⟨max l C,wL P pol (max l C) (c.c (A (max l C+1))) d t w s.sl,by simp only[oC,aF hi],?_⟩;unfold wL;have hall:d.all (λx=>decide (x<c.nt))=true:=(by rw[<-Array.all_toList,dJ];have:=hb.2;rw[dJ]at this;intro x hx;exact eX (rK (this x hx)));rw[aF ⟨hl,hall⟩];have O:=rB (P:=P) (pol:=pol) (show l<=max l C by omega) _ (A (max l C+1)) _ _ _ (D l (max l C+1) (by omega)) g2;have q2:=rB (P:=P) (pol:=pol) (show C<=max l C by omega) _ (A (max l C+1)) _ _ _ (D C (max l C+1) (by omega)) g4;have hbd:V0 d.toList 0 y s.sl=mF d.toList y s.sl:=dl d.toList [] y s.sl (by simpa using hl);have q1':ix P pol (max l C) {c.c (A (max l C+1))with u:=m.st.next} t {sl:=mF d.toList y s.sl,st:={m.st with next:=m.st.next+1},fc:=0}=some (.normal,H.s):=(by rw[<-hbd];exact O);have q2':ix P pol (max l C) {c.c (A (max l C+1))with u:=m.st.next} w H.s=some (.normal,F.s):=q2;simp only
        rw[q1'];simp only
        rw[q2'];rfl
      .rw[aB hi]at M;obtain⟨n,g,g1,g2⟩:=Under.shift D L id h0 M y m m2 e0;exact⟨n,g,by simp only[oC];rw[aB hi];exact g1,g2⟩
     obtain⟨n,hn⟩:=Z _ _ _ _ _ _ _ hm' hu' Q;refine⟨.normal,{s with m:=m',fc:=s.fc+1},J,n+1,?_⟩;rw[xd7,show ev s.s.sl f=.clo g W from e];simp only[hlp,fH,cT];have hn':gH P pol n ((((c.c (A (n+1))).u,s.s.fc,0),wL P pol n (c.c (A (n+1))) d t w s.s.sl)::(c.c (A (n+1))).hs) g (.yld ((c.c (A (n+1))).u,s.s.fc,0)::W) s.s.st=some (v,m'.st):=hn;rw[hn'];rfl
   |_=>simp[fT,tV,hg]at h
 | .scope _,R,c,A,X,E,T,s,r,D,L,h=>by simp[fT,jY]at h
 | .goto _,R,c,A,X,E,T,s,r,D,L,h=>by simp[fT,jY]at h
 | .label _,R,c,A,X,E,T,s,r,D,L,h=>by simp[fT,jY]at h
 | .refuse _,R,c,A,X,E,T,s,r,D,L,h=>by simp[fT,jY]at h
def bh{d:Nat->AV}{m:Mem}{Y:Nat}:∀{e:List ResultVar} {k:List AV->Option R} {r:R},ER P d m e k=some r->∃l,qP P e {sl:=d,st:=m.st,fc:=Y}=some l/\k l=some r
 |[],k,r,h=>⟨[],rfl,h⟩
 | .tmp t::e,k,r,h=>by obtain⟨l,b,f⟩:=bh (Y:=Y) (k:=λl=>k (d t::l)) h;exact⟨d t::l,by simp only[qP,b],f⟩
 | .cell a t::e,k,r,h=>by
   simp only[ER]at h;split at h
   .rename_i g z i;rw[oF]at h;obtain⟨v,b,f⟩:=h;obtain⟨l,A,C⟩:=bh (Y:=Y) (k:=λl=>k (v::l)) f;refine⟨v::l,?_,C⟩;unfold fO aA at b;split at b
    .rename_i id j n o;simp only at b;split at b
     .rename_i p u w x;split at b
      .rename_i y;have e3':m.st.aC id=some (.row p u w):=x;simp only[qP,i,o,e3',aF y,b,A]
      .cases b
     .cases b
    .cases b
   .cases h
def x00{b:List ResultVar}{s:Fs}{v:AV}{m:Mem}(h:fS P b s=some (v,m)):m=s.m/\∃l,qP P b s.s=some l/\((∃x,l=[x]/\v=x)\/((∀x,l≠[x])/\v=.tup l)):=by
 unfold fS at h;obtain⟨l,d,a⟩:=bh (Y:=s.fc) h;split at a
 .rename_i x;cases a;exact⟨rfl,_,d,Or.inl ⟨_,rfl,rfl⟩⟩
 .rename_i e;cases a;exact⟨rfl,_,d,Or.inr ⟨e,rfl⟩⟩
def x1i(M:xE P pol call){Z:FHs}{A:Nat->Hs}{f:FuncId}{a:List AV}{m y:Mem}{r:AV}(O:Mono A)(Q:Under Z A)(h:wN P pol N call Z f a m=some (r,y)):∃n,gH P pol n (A n) f a m.st=some (r,y.st):=by
 unfold wN at h;cases t:Nat.beq (pol f iP) 0 with
 |false=>
  rw[t,cond_false]at h;refine⟨0,?_⟩;unfold gH sK;rw[aF (by intro e;rw[e]at t;cases t)];unfold U' at h;unfold AX;cases w:Nat.beq (pol f iP) 3 with
  |false=>
   rw[w,cond_false]at h;rw[cond_false];cases K:Nat.ble 16 (pol f iP)with
   |true=>
    rw[K,cond_true]at h;rw[cond_true];cases L:Nat.beq (pol f iP % 2) 0 with
    |true=>rw[L,cond_true]at h;simp only[cE,bF]at h;obtain⟨r0,b,rfl,rfl⟩:=h;have e3':XI (pol f iP / 2000) (pol f iP / 2 % 1000) m.st.aC a=some r0:=b;rw[cond_true,e3'];rfl
    |false=>rw[L,cond_false]at h;simp only[cE,bF]at h;obtain⟨p,b,rfl,rfl⟩:=h;have e3':XH (pol f iP / 2000) (pol f iP / 2 % 1000) m.st.aC a=some p:=b;rw[cond_false,e3',IM];rfl
   |false=>
   rw[K,cond_false]at h;rw[cond_false];cases j:Nat.ble 4 (pol f iP)with
   |false=>rw[j,cond_false]at h;simp only[cE,bF]at h;obtain⟨r0,b,rfl,rfl⟩:=h;rw[cond_false,b];rfl
   |true=>rw[j,cond_true]at h;simp only[cE,bF]at h;obtain⟨r0,b,rfl,rfl⟩:=h;have e3':XG (pol f iP) a m.st.aC=some r0:=b;rw[cond_true,e3'];rfl
  |true=>rw[w,cond_true]at h;simp only[cE,bF]at h;obtain⟨p,b,rfl,rfl⟩:=h;have e3':XJ a m.st.aC=some p:=b;rw[cond_true,e3',IM];rfl
 |true=>
 rw[t,cond_true]at h;have g:¬pol f iP≠0:=(by intro e;exact e (fE t));split at h
 .rename_i fn E;split at h
  .rename_i d C;split at h
   .rename_i b;obtain⟨o,H,F,n,W⟩:=sR M d (c:={f:=f,u:=m.next,nt:=fn.ntmps,hs:=Z}) O Q h;have h1':o=.normal\/o=.ret:=by
     cases o with
     |exit i=>simp[I7,iV]at F
     |normal=>exact Or.inl rfl
     |ret=>exact Or.inr rfl
    have w:fS P fn.results.toList H=some (r,y):=(by rcases h1' with rfl|rfl<;>exact F);obtain⟨rfl,l,j,J⟩:=x00 w;refine⟨n,?_⟩;unfold gH sK;rw[aB g,E];simp only
    rw[C];simp only
    rw[aF b];have h2':ix P pol n {f:=f,u:=m.st.next,nt:=fn.ntmps,hs:=A n} d {sl:=nJ a,st:={m.st with next:=m.st.next+1},fc:=0}=some (o,H.s):=W;rw[h2'];rcases h1' with rfl|rfl
    .simp only
     rw[j];rcases J with ⟨x,rfl,rfl⟩|⟨D,rfl⟩
     .rfl
     .split
      .rename_i R e;cases e;exact absurd rfl (D _)
      .rename_i e;cases e;rfl
      .rename_i e;cases e
    .simp only
     rw[j];rcases J with ⟨x,rfl,rfl⟩|⟨D,rfl⟩
     .rfl
     .split
      .rename_i R e;cases e;exact absurd rfl (D _)
      .rename_i e;cases e;rfl
      .rename_i e;cases e
   .cases h
  .rename_i C;simp only[cE,bF]at h;obtain⟨r0,b,rfl,rfl⟩:=h;refine⟨0,?_⟩;unfold gH sK;rw[aB g,E];simp only
   rw[C];simp only
   rw[b];rfl
 .cases h
end Go.Ix
