import Derived.Test.YtjngclcijnpooaaGreatDoorFxSound
import Derived.Test.YtjngclcijnpooaaGreatDoorFxRules
set_option linter.all false
namespace Go.Ix
variable{P:Program}{pol:Pol}{N:Nat}{call:aJ}{R:Type}
def J8(X:Fs->Option R)(E:Nat->Fs->Option R)(T:Fs->Option R):Out->Fs->Option R
 | .normal=>X
 | .exit i=>E i
 | .ret=>T
def Runs(P:Program)(pol:Pol)(A:Nat->Hs)(c:FCtx)(a:Code)(s:S)(o:Out)(b:S):Prop:=∃n,ix P pol n (c.c (A n)) a s=some (o,b)
def Runs.at{A:Nat->Hs}(e:Mono A){c:FCtx}{a:Code}{s d:S}{o:Out}{n m:Nat}(h:ix P pol n (c.c (A n)) a s=some (o,d))(b:n<=m):ix P pol m (c.c (A m)) a s=some (o,d):=
 rN b (c.c (A n)) (A m) a s (o,d) (e n m b) h
def gx:∀(f:List Tmp) (b d:List AV) (e:Nat->AV),d.length=f.length->X1 f b.length (b++d) e=mR f d e
 |[],b,[],e,_=>rfl
 |[],b,_::_,e,h=>by simp at h
 |p::f,b,[],e,h=>by simp at h
 |p::f,b,a::q,e,h=>by simp only[X1,mR];have:(b++a::q).getD b.length U=a:=(by simp[fP]);rw[this];have:=gx f (b++[a]) q (tV e p a) (by simpa using h);rw[eT,kU]at this;exact this
noncomputable def wS(P:Program)(pol:Pol)(n:Nat)(c:Ctx)(a:Array Tmp)(b e:Code)(f:Nat->AV):List AV->St->Option St:=λd st=>
 if d.length=a.size/\a.all (· < c.nt)then
  let c':={c with u:=st.next}
  let g:S:={sl:=mR a.toList d f,st:={st with next:=st.next+1},fc:=0}
  match ix P pol n c' b g with
  |some (.normal,h)=>match ix P pol n c' e h with
   |some (.normal,i)=>some i.st
   |_=>none
  |_=>none
 else none
def x49{n m:Nat}(h:n<=m){c:Ctx}{d:Hs}(j:HLe c.hs d){a:Array Tmp}{b f:Code}{l:Nat->AV}{g:List AV}{st i:St}(e:wS P pol n c a b f l g st=some i) :
    wS P pol m {c with hs:=d} a b f l g st=some i:=by
 unfold wS at e ⊢;simp only at e ⊢;split at e
 .rename_i r;rw[aF r];split at e
  .rename_i x t;have o:=rN h {c with u:=st.next} d _ _ _ j t;simp only at o;rw[o];simp only
   split at e
   .rename_i y w;have p:=rN h {c with u:=st.next} d _ _ _ j w;simp only at p;rw[p];exact e
   .cases e
  .cases e
 .cases e
theorem xg7{n:Nat}{c:Ctx}{f:Operand}{a:Array Tmp}{b d:Code}{s:S}:ix P pol (n+1) c (.rangeFunc f a b d) s=(match ev s.sl f with
 | .clo g h=>
   if nE [] d then
    match gO P pol n (((c.u,s.fc,1),nF (ix P pol n) c (c.u,s.fc,1) a b d s.sl)::c.hs) g (.yld (c.u,s.fc,1)::h) {s.st with aD:=bT s.st.aD (c.u,s.fc,1) (some (.lp none))}with
    |some (_,e)=>match e.aD (c.u,s.fc,1)with
     |some (.lp none)=>some (.normal,{s with st:=e,fc:=s.fc+1})
     |some (.lp (some o))=>some (o,{s with st:=e,fc:=s.fc+1})
     |_=>none
    |none=>none
   else match gO P pol n (((c.u,s.fc,0),wS P pol n c a b d s.sl)::c.hs) g (.yld (c.u,s.fc,0)::h) s.st with
   |some (_,e)=>some (.normal,{s with st:=e,fc:=s.fc+1})
   |none=>none
 |_=>none):=rfl
def xgd{id:Id}{m:Mem}(h:wK id m=true):m.get id=some (.lp none):=by
 unfold wK at h;split at h
 .assumption
 .cases h
def xdn{id:Id}{m b:Mem}(h:kX id m=some b):m.get id=some (.lp none)/\b=m:=by
 unfold kX at h;cases a:wK id m with
 |false=>rw[a]at h;cases h
 |true=>rw[a]at h;cases h;exact⟨xgd a,rfl⟩
def xdm{id:Id}{o:Out}{m b:Mem}(h:lN id o m=some b):m.get id=some (.lp none)/\b=m.set id (.lp (some o)):=by
 unfold lN at h;cases a:wK id m with
 |false=>rw[a]at h;cases h
 |true=>rw[a]at h;cases h;exact⟨xgd a,rfl⟩
def xrc(m:Mem)(id:Id)(o:Ob):(m.new id o).st={m.st with aD:=bT m.st.aD id (some o)}:=by show({aD:=(m.new id o).get,next:=m.next}:St)=_;rw[Mem.get_new'];rfl
def ZQ(m:Mem)(id:Id)(o:Ob):(m.set id o).st={m.st with aD:=bT m.st.aD id (some o)}:=by show({aD:=(m.set id o).get,next:=m.next}:St)=_;rw[Mem.get_set'];rfl
def sY(Z:xU P pol call):∀(code:Code) {R:Type} {c:FCtx} {A:Nat->Hs} {X:Fs->Option R} {E:Nat->Fs->Option R} {T:Fs->Option R} {s:Fs} {r:R},Mono A->Under c.hs A ->
    fG P pol N call code R c X E T s=some r->∃o K,J8 X E T o K=some r/\Runs P pol A c code s.s o K.s
 | .skip,R,c,A,X,E,T,s,r,D,L,h=>⟨.normal,s,h,1,rfl⟩
 | .region id ops draw,R,c,A,X,E,T,s,r,D,L,h=>by obtain⟨K,Q,n,J⟩:=x5r Z D L h;refine⟨.normal,K,Q,n+1,?_⟩;have h3:=xea (gh (P:=P) (pol:=pol) (bS n)) (D n (n+1) (by omega)) J;show(rO P pol (gO P pol n) (c.c (A (n+1))) ops draw s.s).map (λK=>(Out.normal,K))=_;rw[show rO P pol (gO P pol n) (c.c (A (n+1))) ops draw s.s=some K.s from h3];rfl
 | .seq a b,R,c,A,X,E,T,s,r,D,L,h=>by
   obtain⟨o,H,Q,l,J⟩:=sY Z a D L h;cases o with
   |normal=>
    obtain⟨o2,F,h3,C,h4⟩:=sY Z b D L (show fG P pol N call b R c X E T H=some r from Q);refine⟨o2,F,h3,max l C+1,?_⟩;have O:=Runs.at D J (show l<=max l C+1 by omega);have q2:=Runs.at D h4 (show C<=max l C+1 by omega)
    show(match ix P pol (max l C+1) (c.c (A (max l C+1))) a s.s with
     |some (.normal,K)=>ix P pol (max l C+1) (c.c (A (max l C+1))) b K
     |r=>r)=_
    rw[O];exact q2
   |exit i=>
    refine⟨.exit i,H,Q,l+1,?_⟩;have O:=Runs.at D J (show l<=l+1 by omega)
    show(match ix P pol (l+1) (c.c (A (l+1))) a s.s with
     |some (.normal,K)=>ix P pol (l+1) (c.c (A (l+1))) b K
     |r=>r)=_
    rw[O]
   |ret=>
    refine⟨.ret,H,Q,l+1,?_⟩;have O:=Runs.at D J (show l<=l+1 by omega)
    show(match ix P pol (l+1) (c.c (A (l+1))) a s.s with
     |some (.normal,K)=>ix P pol (l+1) (c.c (A (l+1))) b K
     |r=>r)=_
    rw[O]
 | .cond x a b,R,c,A,X,E,T,s,r,D,L,h=>by
   have h':aK (ev s.sl x) (fG P pol N call a R c X E T s) (fG P pol N call b R c X E T s)=some r:=h;unfold aK at h';split at h'
   .rename_i e;obtain⟨o,H,Q,l,J⟩:=sY Z a D L h';refine⟨o,H,Q,l+1,?_⟩;have O:=Runs.at D J (show l<=l+1 by omega)
    show(match ev s.s.sl x with
     | .sc (.bool true)=>ix P pol (l+1) (c.c (A (l+1))) a s.s
     | .sc (.bool false)=>ix P pol (l+1) (c.c (A (l+1))) b s.s
     |_=>none)=_
    rw[show ev s.s.sl x=.sc (.bool true)from e];exact O
   .rename_i e;obtain⟨o,H,Q,l,J⟩:=sY Z b D L h';refine⟨o,H,Q,l+1,?_⟩;have O:=Runs.at D J (show l<=l+1 by omega)
    show(match ev s.s.sl x with
     | .sc (.bool true)=>ix P pol (l+1) (c.c (A (l+1))) a s.s
     | .sc (.bool false)=>ix P pol (l+1) (c.c (A (l+1))) b s.s
     |_=>none)=_
    rw[show ev s.s.sl x=.sc (.bool false)from e];exact O
   .cases h'
 | .block id b,R,c,A,X,E,T,s,r,D,L,h=>by
   obtain⟨o,H,Q,l,J⟩:=sY Z b D L h;have O:=Runs.at D J (show l<=l+1 by omega);have key:∀o':Out,(match (some (o,H.s):Option (Out×S))with|some (Out.exit id',K)=>if id'=id then some (Out.normal,K)else some (Out.exit id',K)|r=>r)=some (o',H.s)->Runs P pol A c (.block id b) s.s o' H.s:=by
    intro o' e;refine⟨l+1,?_⟩
    show(match ix P pol (l+1) (c.c (A (l+1))) b s.s with
     |some (Out.exit id',K)=>if id'=id then some (Out.normal,K)else some (Out.exit id',K)
     |r=>r)=_
    rw[O];exact e
   cases o with
   |normal=>exact⟨.normal,H,Q,key _ rfl⟩
   |ret=>exact⟨.ret,H,Q,key _ rfl⟩
   |exit i=>
    have h1':(bif Nat.beq i id then X H else E i H)=some r:=Q;by_cases hi:i=id
    .subst hi;rw[show Nat.beq i i=true from by simp]at h1';exact⟨.normal,H,h1',key _ (by simp)⟩
    .rw[show Nat.beq i id=false from by rw[kV];intro e;exact hi (gD e)]at h1';exact⟨.exit i,H,h1',key _ (by simp[hi])⟩
 | .loop b,R,c,A,X,E,T,s,r,D,L,h=>by
   have key:∀(j:Nat) (s:Fs),V3 (λrec=>fG P pol N call b R c rec E T) j s=some r->∃o K,J8 X E T o K=some r/\Runs P pol A c (.loop b) s.s o K.s:=by
    intro j;induction j with
    |zero=>intro s h;simp[V3]at h
    |succ j ih=>
     intro s h;obtain⟨o,H,Q,l,J⟩:=sY Z b D L (show fG P pol N call b R c (V3 (λrec=>fG P pol N call b R c rec E T) j) E T s=some r from h);cases o with
     |normal=>
      obtain⟨o2,F,h3,C,h4⟩:=ih H Q;refine⟨o2,F,h3,max l C+1,?_⟩;have O:=Runs.at D J (show l<=max l C+1 by omega);have q2:=rN (show C<=max l C by omega) (c.c (A C)) (A (max l C+1)) _ _ _ (D C (max l C+1) (by omega)) h4
      show(match ix P pol (max l C+1) (c.c (A (max l C+1))) b s.s with
       |some (.normal,K)=>ix P pol (max l C) (c.c (A (max l C+1))) (.loop b) K
       |r=>r)=_
      rw[O];exact q2
     |exit i=>
      refine⟨.exit i,H,Q,l+1,?_⟩;have O:=Runs.at D J (show l<=l+1 by omega)
      show(match ix P pol (l+1) (c.c (A (l+1))) b s.s with
       |some (.normal,K)=>ix P pol l (c.c (A (l+1))) (.loop b) K
       |r=>r)=_
      rw[O]
     |ret=>
      refine⟨.ret,H,Q,l+1,?_⟩;have O:=Runs.at D J (show l<=l+1 by omega)
      show(match ix P pol (l+1) (c.c (A (l+1))) b s.s with
       |some (.normal,K)=>ix P pol l (c.c (A (l+1))) (.loop b) K
       |r=>r)=_
      rw[O]
   exact key N s h
 | .exit id,R,c,A,X,E,T,s,r,D,L,h=>⟨.exit id,s,h,1,rfl⟩
 | .ret,R,c,A,X,E,T,s,r,D,L,h=>⟨.ret,s,h,1,rfl⟩
 | .rangeFunc f d t w,R,c,A,X,E,T,s,r,D,L,h=>by
   cases hg:ev s.sl f with
   |clo g W=>
    have e:=hg;cases hlp:nE [] w with
    |true=>
     have h':(call (((c.u,s.fc,1),uJ c.nt d.size (λu=>fG P pol N call t Mem {c with u:=u} (λH=>(kX (c.u,s.fc,1) H.m).bind λ_=>
      fG P pol N call w Mem {c with u:=u} (λF=>kX (c.u,s.fc,1) F.m) (λi F=>lN (c.u,s.fc,1) (.exit i) F.m) (λF=>lN (c.u,s.fc,1) .ret F.m) H) iN jQ) d.toList s.sl)::c.hs)
      g (.yld (c.u,s.fc,1)::W) (s.m.new (c.u,s.fc,1) (.lp none))).bind (λp=>N4 (c.u,s.fc,1) p.2 (X {s with m:=p.2,fc:=s.fc+1}) (T {s with m:=p.2,fc:=s.fc+1}) λi=>E i {s with m:=p.2,fc:=s.fc+1})=some r:=by
      have J:=h
      simp only[fG,hg,oV,hlp,cond_true]at J
      exact J
     rw[pE]at h';obtain⟨⟨v,m'⟩,Q,J⟩:=h';have hm':Mono λk=>((c.u,s.fc,1),nF (ix P pol k) (c.c (A (k+1))) (c.u,s.fc,1) d t w s.sl)::A (k+1):=by intro i j hij;exact⟨rfl,λy st st' e=>xhw (c:=c.c (A (i+1))) (rN hij) (D (i+1) (j+1) (by omega)) e,D (i+1) (j+1) (by omega)⟩
     have hu':Under (((c.u,s.fc,1),uJ c.nt d.size (λu=>fG P pol N call t Mem {c with u:=u} (λH=>(kX (c.u,s.fc,1) H.m).bind λ_=>
      fG P pol N call w Mem {c with u:=u} (λF=>kX (c.u,s.fc,1) F.m) (λi F=>lN (c.u,s.fc,1) (.exit i) F.m) (λF=>lN (c.u,s.fc,1) .ret F.m) H) iN jQ) d.toList s.sl)::c.hs)
      λk=>((c.u,s.fc,1),nF (ix P pol k) (c.c (A (k+1))) (c.u,s.fc,1) d t w s.sl)::A (k+1):=by
      intro id h0 M y m m2 e0
      simp only[oF]at M
      by_cases hi:(c.u,s.fc,1)=id
      .rw[aF hi]at M
       cases M
       unfold uJ at e0
       cases hb:(Nat.beq y.length d.size&&d.toList.all (Nat.blt · c.nt))with
       |false=>rw[hb]at e0;cases e0
       |true=>
        rw[hb,cond_true]at e0
        rw[cR]at hb
        have hl:y.length=d.size:=gD hb.1
        obtain⟨o1,H,g1,l,g2⟩:=sY Z t (c:={c with u:=m.next}) D L e0
        have ho1:o1=.normal:=by cases o1<;>first|rfl|(simp[J8,iN,jQ]at g1)
        subst ho1
        have g1':(kX (c.u,s.fc,1) H.m).bind (λ_=>fG P pol N call w Mem {c with u:=m.next} (λF=>kX (c.u,s.fc,1) F.m) (λi F=>lN (c.u,s.fc,1) (.exit i) F.m) (λF=>lN (c.u,s.fc,1) .ret F.m) H)=some m2:=g1
        rw[pE]at g1'
        obtain⟨m1,k1,k2⟩:=g1'
        obtain⟨k3,-⟩:=xdn k1
        obtain⟨o2,F,g3,C,g4⟩:=sY Z w (c:={c with u:=m.next}) D L k2
        have hall:d.all (λx=>decide (x<c.nt))=true:=by
         rw[<-Array.all_toList,dG]
         have:=hb.2
         rw[dG]at this
         intro x hx
         exact eX (xL (this x hx))
        have O:=rN (P:=P) (pol:=pol) (show l<=max l C by omega) _ (A (max l C+1)) _ _ _ (D l (max l C+1) (by omega)) g2
        have q2:=rN (P:=P) (pol:=pol) (show C<=max l C by omega) _ (A (max l C+1)) _ _ _ (D C (max l C+1) (by omega)) g4
        have hbd:X1 d.toList 0 y s.sl=mR d.toList y s.sl:=gx d.toList [] y s.sl (by simpa using hl)
        have q1':ix P pol (max l C) {c.c (A (max l C+1))with u:=m.st.next} t {sl:=mR d.toList y s.sl,st:={m.st with next:=m.st.next+1},fc:=0}=some (.normal,H.s):=by
         rw[<-hbd];exact O
        have q2':ix P pol (max l C) {c.c (A (max l C+1))with u:=m.st.next} w H.s=some (o2,F.s):=q2
        have hob1:H.s.st.aD (c.u,s.fc,1)=some (.lp none):=k3
        refine⟨max l C,nF (ix P pol (max l C)) (c.c (A (max l C+1))) (c.u,s.fc,1) d t w s.sl,by simp only[pA,aF hi],?_⟩
        unfold nF
        rw[aF ⟨hl,hall⟩]
        rw[q1']
        simp only[hob1]
        rw[q2']
        cases o2 with
        |normal=>
         obtain⟨g5,g6⟩:=xdn (show kX (c.u,s.fc,1) F.m=some m2 from g3)
         have Y:F.s.st.aD (c.u,s.fc,1)=some (.lp none):=g5
         simp only[Y]
         rw[g6]
         rfl
        |exit i=>
         obtain⟨g5,g6⟩:=xdm (show lN (c.u,s.fc,1) (.exit i) F.m=some m2 from g3)
         have Y:F.s.st.aD (c.u,s.fc,1)=some (.lp none):=g5
         simp only[Y]
         rw[g6,ZQ]
         rfl
        |ret=>
         obtain⟨g5,g6⟩:=xdm (show lN (c.u,s.fc,1) .ret F.m=some m2 from g3)
         have Y:F.s.st.aD (c.u,s.fc,1)=some (.lp none):=g5
         simp only[Y]
         rw[g6,ZQ]
         rfl
      .rw[aB hi]at M
       obtain⟨n,g,g1,g2⟩:=Under.shift D L id h0 M y m m2 e0
       exact⟨n,g,by simp only[pA];rw[aB hi];exact g1,g2⟩
     obtain⟨n,hn⟩:=Z _ _ _ _ _ _ _ hm' hu' Q;have hn':gO P pol n ((((c.c (A (n+1))).u,s.s.fc,1),nF (ix P pol n) (c.c (A (n+1))) ((c.c (A (n+1))).u,s.s.fc,1) d t w s.s.sl)::(c.c (A (n+1))).hs) g (.yld ((c.c (A (n+1))).u,s.s.fc,1)::W) {s.s.st with aD:=bT s.s.st.aD ((c.c (A (n+1))).u,s.s.fc,1) (some (.lp none))}=some (v,m'.st):=(by rw[xrc]at hn;exact hn);have fin:∀o:Out,(m'.get (c.u,s.fc,1)=some (.lp none)/\o=.normal\/m'.get (c.u,s.fc,1)=some (.lp (some o)))->Runs P pol A c (.rangeFunc f d t w) s.s o ({s with m:=m',fc:=s.fc+1}:Fs).s:=by
      intro o ho;refine⟨n+1,?_⟩;rw[xg7,show ev s.s.sl f=.clo g W from hg];simp only[hlp,cI];rw[hn'];simp only
      rcases ho with ⟨ho,rfl⟩|ho
      .rw[show m'.st.aD ((c.c (A (n+1))).u,s.s.fc,1)=some (.lp none)from ho];rfl
      .rw[show m'.st.aD ((c.c (A (n+1))).u,s.s.fc,1)=some (.lp (some o))from ho];rfl
     simp only[N4]at J;split at J
     .rename_i ho;exact⟨.normal,_,J,fin _ (.inl ⟨ho,rfl⟩)⟩
     .rename_i ho;exact⟨.ret,_,J,fin _ (.inr ho)⟩
     .rename_i i ho;exact⟨.exit i,_,J,fin _ (.inr ho)⟩
     .cases J
    |false=>
     have h':(call (((c.u,s.fc,0),uJ c.nt d.size (λu=>fG P pol N call t Mem {c with u:=u} (fG P pol N call w Mem {c with u:=u} (λF=>some F.m) iN jQ) iN jQ) d.toList s.sl)::c.hs)
      g (.yld (c.u,s.fc,0)::W) s.m).bind (λp=>X {s with m:=p.2,fc:=s.fc+1})=some r:=by
      have J:=h
      simp only[fG,hg,oV,hlp,cond_false]at J
      exact J
     rw[pE]at h';obtain⟨⟨v,m'⟩,Q,J⟩:=h';have hm':Mono λk=>((c.u,s.fc,0),wS P pol k (c.c (A (k+1))) d t w s.sl)::A (k+1):=by intro i j hij;exact⟨rfl,λy st st' e=>x49 hij (D (i+1) (j+1) (by omega)) e,D (i+1) (j+1) (by omega)⟩
     have hu':Under (((c.u,s.fc,0),uJ c.nt d.size (λu=>fG P pol N call t Mem {c with u:=u} (fG P pol N call w Mem {c with u:=u} (λF=>some F.m) iN jQ) iN jQ) d.toList s.sl)::c.hs)
      λk=>((c.u,s.fc,0),wS P pol k (c.c (A (k+1))) d t w s.sl)::A (k+1):=by
      intro id h0 M y m m2 e0;simp only[oF]at M;by_cases hi:(c.u,s.fc,0)=id
      .rw[aF hi]at M;cases M;unfold uJ at e0;cases hb:(Nat.beq y.length d.size&&d.toList.all (Nat.blt · c.nt))with
       |false=>rw[hb]at e0;cases e0
       |true=>
        rw[hb,cond_true]at e0;rw[cR]at hb;have hl:y.length=d.size:=gD hb.1;obtain⟨o1,H,g1,l,g2⟩:=sY Z t (c:={c with u:=m.next}) D L e0;have ho1:o1=.normal:=(by cases o1<;>first|rfl|(simp[J8,iN,jQ]at g1));subst ho1;obtain⟨o2,F,g3,C,g4⟩:=sY Z w (c:={c with u:=m.next}) D L (show fG P pol N call w Mem {c with u:=m.next} (λF=>some F.m) iN jQ H=some m2 from g1);have ho2:o2=.normal:=(by cases o2<;>first|rfl|(simp[J8,iN,jQ]at g3));subst ho2;have g5:F.m=m2:=(by simpa[J8]using g3);subst g5;refine⟨max l C,wS P pol (max l C) (c.c (A (max l C+1))) d t w s.sl,by simp only[pA,aF hi],?_⟩;unfold wS;have hall:d.all (λx=>decide (x<c.nt))=true:=(by rw[<-Array.all_toList,dG];have:=hb.2;rw[dG]at this;intro x hx;exact eX (xL (this x hx)));rw[aF ⟨hl,hall⟩];have O:=rN (P:=P) (pol:=pol) (show l<=max l C by omega) _ (A (max l C+1)) _ _ _ (D l (max l C+1) (by omega)) g2;have q2:=rN (P:=P) (pol:=pol) (show C<=max l C by omega) _ (A (max l C+1)) _ _ _ (D C (max l C+1) (by omega)) g4;have hbd:X1 d.toList 0 y s.sl=mR d.toList y s.sl:=gx d.toList [] y s.sl (by simpa using hl);have q1':ix P pol (max l C) {c.c (A (max l C+1))with u:=m.st.next} t {sl:=mR d.toList y s.sl,st:={m.st with next:=m.st.next+1},fc:=0}=some (.normal,H.s):=(by rw[<-hbd];exact O);have q2':ix P pol (max l C) {c.c (A (max l C+1))with u:=m.st.next} w H.s=some (.normal,F.s):=q2;simp only
        rw[q1'];simp only
        rw[q2'];rfl
      .rw[aB hi]at M;obtain⟨n,g,g1,g2⟩:=Under.shift D L id h0 M y m m2 e0;exact⟨n,g,by simp only[pA];rw[aB hi];exact g1,g2⟩
     obtain⟨n,hn⟩:=Z _ _ _ _ _ _ _ hm' hu' Q;refine⟨.normal,{s with m:=m',fc:=s.fc+1},J,n+1,?_⟩;rw[xg7,show ev s.s.sl f=.clo g W from e];simp only[hlp,fQ,cU];have hn':gO P pol n ((((c.c (A (n+1))).u,s.s.fc,0),wS P pol n (c.c (A (n+1))) d t w s.s.sl)::(c.c (A (n+1))).hs) g (.yld ((c.c (A (n+1))).u,s.s.fc,0)::W) s.s.st=some (v,m'.st):=hn;rw[hn'];rfl
   |_=>simp[fG,oV,hg]at h
 | .scope _,R,c,A,X,E,T,s,r,D,L,h=>by simp[fG,jQ]at h
 | .goto _,R,c,A,X,E,T,s,r,D,L,h=>by simp[fG,jQ]at h
 | .label _,R,c,A,X,E,T,s,r,D,L,h=>by simp[fG,jQ]at h
 | .refuse _,R,c,A,X,E,T,s,r,D,L,h=>by simp[fG,jQ]at h
def eh{d:Nat->AV}{m:Mem}{Y:Nat}:∀{e:List ResultVar} {k:List AV->Option R} {r:R},GR P d m e k=some r->∃l,rD P e {sl:=d,st:=m.st,fc:=Y}=some l/\k l=some r
 |[],k,r,h=>⟨[],rfl,h⟩
 | .tmp t::e,k,r,h=>by obtain⟨l,b,f⟩:=eh (Y:=Y) (k:=λl=>k (d t::l)) h;exact⟨d t::l,by simp only[rD,b],f⟩
 | .cell a t::e,k,r,h=>by
   simp only[GR]at h;split at h
   .rename_i g z i;rw[pE]at h;obtain⟨v,b,f⟩:=h;obtain⟨l,A,C⟩:=eh (Y:=Y) (k:=λl=>k (v::l)) f;refine⟨v::l,?_,C⟩;unfold kY aA at b;split at b
    .rename_i id j n o;simp only at b;split at b
     .rename_i p u w x;split at b
      .rename_i y;have e3':m.st.aD id=some (.row p u w):=x;simp only[rD,i,o,e3',aF y,b,A]
      .cases b
     .cases b
    .cases b
   .cases h
def x5q{b:List ResultVar}{s:Fs}{v:AV}{m:Mem}(h:fZ P b s=some (v,m)):m=s.m/\∃l,rD P b s.s=some l/\((∃x,l=[x]/\v=x)\/((∀x,l≠[x])/\v=.tup l)):=by
 unfold fZ at h;obtain⟨l,d,a⟩:=eh (Y:=s.fc) h;split at a
 .rename_i x;cases a;exact⟨rfl,_,d,Or.inl ⟨_,rfl,rfl⟩⟩
 .rename_i e;cases a;exact⟨rfl,_,d,Or.inr ⟨e,rfl⟩⟩
def x58(L:xU P pol call){Z:FHs}{A:Nat->Hs}{f:FuncId}{a:List AV}{m t:Mem}{r:AV}(M:Mono A)(O:Under Z A)(h:wU P pol N call Z f a m=some (r,t)):∃n,gO P pol n (A n) f a m.st=some (r,t.st):=by
 unfold wU at h;cases j:Nat.beq (pol f jD) 0 with
 |false=>
  rw[j,cond_false]at h;refine⟨0,?_⟩;unfold gO sV;rw[aF (by intro e;rw[e]at j;cases j)];unfold xcr at h;unfold vQ
  .cases J:Nat.ble 16 (pol f jD)with
   |true=>
    rw[J,cond_true]at h;rw[cond_true];cases K:Nat.beq (pol f jD % 2) 0 with
    |true=>rw[K,cond_true]at h;simp only[cM,bK]at h;obtain⟨r0,b,rfl,rfl⟩:=h;have e3':vS (pol f jD / 2000) (pol f jD / 2 % 1000) m.st.aD a=some r0:=b;rw[cond_true,e3'];rfl
    |false=>rw[K,cond_false]at h;simp only[cM,bK]at h;obtain⟨p,b,rfl,rfl⟩:=h;have e3':vR (pol f jD / 2000) (pol f jD / 2 % 1000) m.st.aD a=some p:=b;rw[cond_false,e3',ZQ];rfl
   |false=>rw[J,cond_false]at h;simp only[cM,bK]at h;obtain⟨r0,b,rfl,rfl⟩:=h;rw[cond_false,b];rfl
 |true=>
 rw[j,cond_true]at h;have g:¬pol f jD≠0:=(by intro e;exact e (gD j));split at h
 .rename_i fn C;split at h
  .rename_i d w;split at h
   .rename_i b;obtain⟨o,E,D,n,W⟩:=sY L d (c:={f:=f,u:=m.next,nt:=fn.ntmps,hs:=Z}) M O h;have h1':o=.normal\/o=.ret:=by
     cases o with
     |exit i=>simp[J8,iN]at D
     |normal=>exact Or.inl rfl
     |ret=>exact Or.inr rfl
    have R:fZ P fn.results.toList E=some (r,t):=(by rcases h1' with rfl|rfl<;>exact D);obtain⟨rfl,l,F,H⟩:=x5q R;refine⟨n,?_⟩;unfold gO sV;rw[aB g,C];simp only
    rw[w];simp only
    rw[aF b];have h2':ix P pol n {f:=f,u:=m.st.next,nt:=fn.ntmps,hs:=A n} d {sl:=oD a,st:={m.st with next:=m.st.next+1},fc:=0}=some (o,E.s):=W;rw[h2'];rcases h1' with rfl|rfl
    .simp only
     rw[F];rcases H with ⟨x,rfl,rfl⟩|⟨y,rfl⟩
     .rfl
     .split
      .rename_i Q e;cases e;exact absurd rfl (y _)
      .rename_i e;cases e;rfl
      .rename_i e;cases e
    .simp only
     rw[F];rcases H with ⟨x,rfl,rfl⟩|⟨y,rfl⟩
     .rfl
     .split
      .rename_i Q e;cases e;exact absurd rfl (y _)
      .rename_i e;cases e;rfl
      .rename_i e;cases e
   .cases h
  .rename_i w;simp only[cM,bK]at h;obtain⟨r0,b,rfl,rfl⟩:=h;refine⟨0,?_⟩;unfold gO sV;rw[aB g,C];simp only
   rw[w];simp only
   rw[b];rfl
 .cases h
end Go.Ix
