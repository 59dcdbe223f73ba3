import Derived.Test.YtjngclcijnpooaaGreatDoorFxSound
import Derived.Test.YtjngclcijnpooaaGreatDoorFxRules
set_option linter.all false
namespace Go.Ix
variable{P:Program}{pol:Pol}{N:Nat}{call:aK}{R:Type}
def J2(X:Fs->Option R)(E:Nat->Fs->Option R)(T:Fs->Option R):Out->Fs->Option R
 | .normal=>X
 | .exit i=>E i
 | .ret=>T
def Runs(P:Program)(pol:Pol)(A:Nat->Hs)(c:FCtx)(a:Code)(s:S)(o:Out)(b:S):Prop:=∃n,ix P pol n (c.c (A n)) a s=some (o,b)
def Runs.at{A:Nat->Hs}(e:Mono A){c:FCtx}{a:Code}{s d:S}{o:Out}{n m:Nat}(h:ix P pol n (c.c (A n)) a s=some (o,d))(b:n<=m):ix P pol m (c.c (A m)) a s=some (o,d):=
 rT b (c.c (A n)) (A m) a s (o,d) (e n m b) h
def gy:∀(f:List Tmp) (b d:List AV) (e:Nat->AV),d.length=f.length->W8 f b.length (b++d) e=mI f d e
 |[],b,[],e,_=>rfl
 |[],b,_::_,e,h=>by simp at h
 |p::f,b,[],e,h=>by simp at h
 |p::f,b,a::q,e,h=>by simp only[W8,mI];have:(b++a::q).getD b.length U=a:=(by simp[eU]);rw[this];have:=gy f (b++[a]) q (uB e p a) (by simpa using h);rw[jL,sB]at this;exact this
noncomputable def wV(P:Program)(pol:Pol)(n:Nat)(c:Ctx)(a:Array Tmp)(b e:Code)(f:Nat->AV):List AV->St->Option St:=λd st=>
 if d.length=a.size/\a.all (· < c.nt)then
  let c':={c with u:=st.next}
  let g:S:={sl:=mI a.toList d f,st:={st with next:=st.next+1},fc:=0}
  match ix P pol n c' b g with
  |some (.normal,h)=>match ix P pol n c' e h with
   |some (.normal,i)=>some i.st
   |_=>none
  |_=>none
 else none
def x34{n m:Nat}(h:n<=m){c:Ctx}{d:Hs}(j:HLe c.hs d){a:Array Tmp}{b f:Code}{l:Nat->AV}{g:List AV}{st i:St}(e:wV P pol n c a b f l g st=some i) :
    wV P pol m {c with hs:=d} a b f l g st=some i:=by
 unfold wV at e ⊢;simp only at e ⊢;split at e
 .rename_i r;rw[aH r];split at e
  .rename_i x t;have o:=rT h {c with u:=st.next} d _ _ _ j t;simp only at o;rw[o];simp only
   split at e
   .rename_i y w;have p:=rT h {c with u:=st.next} d _ _ _ j w;simp only at p;rw[p];exact e
   .cases e
  .cases e
 .cases e
theorem xgs{n:Nat}{c:Ctx}{f:Operand}{a:Array Tmp}{b d:Code}{s:S}:ix P pol (n+1) c (.rangeFunc f a b d) s=(match ev s.sl f with
 | .clo g h=>
   if oQ [] d then
    match gU P pol n (((c.u,s.fc,1),mU (ix P pol n) c (c.u,s.fc,1) a b d s.sl)::c.hs) g (.yld (c.u,s.fc,1)::h) {s.st with aC:=bP s.st.aC (c.u,s.fc,1) (some (.lp none))}with
    |some (_,e)=>match e.aC (c.u,s.fc,1)with
     |some (.lp none)=>some (.normal,{s with st:=e,fc:=s.fc+1})
     |some (.lp (some o))=>some (o,{s with st:=e,fc:=s.fc+1})
     |_=>none
    |none=>none
   else match gU P pol n (((c.u,s.fc,0),wV P pol n c a b d s.sl)::c.hs) g (.yld (c.u,s.fc,0)::h) s.st with
   |some (_,e)=>some (.normal,{s with st:=e,fc:=s.fc+1})
   |none=>none
 |_=>none):=rfl
def xf1{id:Id}{m:Mem}(h:U0 id m=true):m.get id=some (.lp none):=by
 unfold U0 at h;split at h
 .assumption
 .cases h
def xdk{id:Id}{m b:Mem}(h:sK id m=some b):m.get id=some (.lp none)/\b=m:=by
 unfold sK at h;cases a:U0 id m with
 |false=>rw[a]at h;cases h
 |true=>rw[a]at h;cases h;exact⟨xf1 a,rfl⟩
def xdj{id:Id}{o:Out}{m b:Mem}(h:rE id o m=some b):m.get id=some (.lp none)/\b=m.set id (.lp (some o)):=by
 unfold rE at h;cases a:U0 id m with
 |false=>rw[a]at h;cases h
 |true=>rw[a]at h;cases h;exact⟨xf1 a,rfl⟩
def xqc(m:Mem)(id:Id)(o:Ob):(m.new id o).st={m.st with aC:=bP m.st.aC id (some o)}:=by show({aC:=(m.new id o).get,next:=m.next}:St)=_;rw[Mem.get_new'];rfl
def KF(m:Mem)(id:Id)(o:Ob):(m.set id o).st={m.st with aC:=bP m.st.aC id (some o)}:=by show({aC:=(m.set id o).get,next:=m.next}:St)=_;rw[Mem.get_set'];rfl
def tH(Z:xN P pol call):∀(code:Code) {R:Type} {c:FCtx} {A:Nat->Hs} {X:Fs->Option R} {E:Nat->Fs->Option R} {T:Fs->Option R} {s:Fs} {r:R},Mono A->Under c.hs A ->
    fR P pol N call code R c X E T s=some r->∃o K,J2 X E T o K=some r/\Runs P pol A c code s.s o K.s
 | .skip,R,c,A,X,E,T,s,r,D,L,h=>⟨.normal,s,h,1,rfl⟩
 | .region id ops draw,R,c,A,X,E,T,s,r,D,L,h=>by obtain⟨K,Q,n,J⟩:=x4i Z D L h;refine⟨.normal,K,Q,n+1,?_⟩;have h3:=xd4 (gm (P:=P) (pol:=pol) (bT n)) (D n (n+1) (by omega)) J;show(rU P pol (gU P pol n) (c.c (A (n+1))) ops draw s.s).map (λK=>(Out.normal,K))=_;rw[show rU P pol (gU P pol n) (c.c (A (n+1))) ops draw s.s=some K.s from h3];rfl
 | .seq a b,R,c,A,X,E,T,s,r,D,L,h=>by
   obtain⟨o,H,Q,l,J⟩:=tH Z a D L h;cases o with
   |normal=>
    obtain⟨o2,F,h3,C,h4⟩:=tH Z b D L (show fR P pol N call b R c X E T H=some r from Q);refine⟨o2,F,h3,max l C+1,?_⟩;have O:=Runs.at D J (show l<=max l C+1 by omega);have q2:=Runs.at D h4 (show C<=max l C+1 by omega)
    show(match ix P pol (max l C+1) (c.c (A (max l C+1))) a s.s with
     |some (.normal,K)=>ix P pol (max l C+1) (c.c (A (max l C+1))) b K
     |r=>r)=_
    rw[O];exact q2
   |exit i=>
    refine⟨.exit i,H,Q,l+1,?_⟩;have O:=Runs.at D J (show l<=l+1 by omega)
    show(match ix P pol (l+1) (c.c (A (l+1))) a s.s with
     |some (.normal,K)=>ix P pol (l+1) (c.c (A (l+1))) b K
     |r=>r)=_
    rw[O]
   |ret=>
    refine⟨.ret,H,Q,l+1,?_⟩;have O:=Runs.at D J (show l<=l+1 by omega)
    show(match ix P pol (l+1) (c.c (A (l+1))) a s.s with
     |some (.normal,K)=>ix P pol (l+1) (c.c (A (l+1))) b K
     |r=>r)=_
    rw[O]
 | .cond x a b,R,c,A,X,E,T,s,r,D,L,h=>by
   have h':aL (ev s.sl x) (fR P pol N call a R c X E T s) (fR P pol N call b R c X E T s)=some r:=h;unfold aL at h';split at h'
   .rename_i e;obtain⟨o,H,Q,l,J⟩:=tH Z a D L h';refine⟨o,H,Q,l+1,?_⟩;have O:=Runs.at D J (show l<=l+1 by omega)
    show(match ev s.s.sl x with
     | .sc (.bool true)=>ix P pol (l+1) (c.c (A (l+1))) a s.s
     | .sc (.bool false)=>ix P pol (l+1) (c.c (A (l+1))) b s.s
     |_=>none)=_
    rw[show ev s.s.sl x=.sc (.bool true)from e];exact O
   .rename_i e;obtain⟨o,H,Q,l,J⟩:=tH Z b D L h';refine⟨o,H,Q,l+1,?_⟩;have O:=Runs.at D J (show l<=l+1 by omega)
    show(match ev s.s.sl x with
     | .sc (.bool true)=>ix P pol (l+1) (c.c (A (l+1))) a s.s
     | .sc (.bool false)=>ix P pol (l+1) (c.c (A (l+1))) b s.s
     |_=>none)=_
    rw[show ev s.s.sl x=.sc (.bool false)from e];exact O
   .cases h'
 | .block id b,R,c,A,X,E,T,s,r,D,L,h=>by
   obtain⟨o,H,Q,l,J⟩:=tH Z b D L h;have O:=Runs.at D J (show l<=l+1 by omega);have key:∀o':Out,(match (some (o,H.s):Option (Out×S))with|some (Out.exit id',K)=>if id'=id then some (Out.normal,K)else some (Out.exit id',K)|r=>r)=some (o',H.s)->Runs P pol A c (.block id b) s.s o' H.s:=by
    intro o' e;refine⟨l+1,?_⟩
    show(match ix P pol (l+1) (c.c (A (l+1))) b s.s with
     |some (Out.exit id',K)=>if id'=id then some (Out.normal,K)else some (Out.exit id',K)
     |r=>r)=_
    rw[O];exact e
   cases o with
   |normal=>exact⟨.normal,H,Q,key _ rfl⟩
   |ret=>exact⟨.ret,H,Q,key _ rfl⟩
   |exit i=>
    have h1':(bif Nat.beq i id then X H else E i H)=some r:=Q;by_cases hi:i=id
    .subst hi;rw[show Nat.beq i i=true from by simp]at h1';exact⟨.normal,H,h1',key _ (by simp)⟩
    .rw[show Nat.beq i id=false from by rw[kU];intro e;exact hi (fJ e)]at h1';exact⟨.exit i,H,h1',key _ (by simp[hi])⟩
 | .loop b,R,c,A,X,E,T,s,r,D,L,h=>by
   have key:∀(j:Nat) (s:Fs),U5 (λrec=>fR P pol N call b R c rec E T) j s=some r->∃o K,J2 X E T o K=some r/\Runs P pol A c (.loop b) s.s o K.s:=by
    intro j;induction j with
    |zero=>intro s h;simp[U5]at h
    |succ j ih=>
     intro s h;obtain⟨o,H,Q,l,J⟩:=tH Z b D L (show fR P pol N call b R c (U5 (λrec=>fR P pol N call b R c rec E T) j) E T s=some r from h);cases o with
     |normal=>
      obtain⟨o2,F,h3,C,h4⟩:=ih H Q;refine⟨o2,F,h3,max l C+1,?_⟩;have O:=Runs.at D J (show l<=max l C+1 by omega);have q2:=rT (show C<=max l C by omega) (c.c (A C)) (A (max l C+1)) _ _ _ (D C (max l C+1) (by omega)) h4
      show(match ix P pol (max l C+1) (c.c (A (max l C+1))) b s.s with
       |some (.normal,K)=>ix P pol (max l C) (c.c (A (max l C+1))) (.loop b) K
       |r=>r)=_
      rw[O];exact q2
     |exit i=>
      refine⟨.exit i,H,Q,l+1,?_⟩;have O:=Runs.at D J (show l<=l+1 by omega)
      show(match ix P pol (l+1) (c.c (A (l+1))) b s.s with
       |some (.normal,K)=>ix P pol l (c.c (A (l+1))) (.loop b) K
       |r=>r)=_
      rw[O]
     |ret=>
      refine⟨.ret,H,Q,l+1,?_⟩;have O:=Runs.at D J (show l<=l+1 by omega)
      show(match ix P pol (l+1) (c.c (A (l+1))) b s.s with
       |some (.normal,K)=>ix P pol l (c.c (A (l+1))) (.loop b) K
       |r=>r)=_
      rw[O]
   exact key N s h
 | .exit id,R,c,A,X,E,T,s,r,D,L,h=>⟨.exit id,s,h,1,rfl⟩
 | .ret,R,c,A,X,E,T,s,r,D,L,h=>⟨.ret,s,h,1,rfl⟩
 | .rangeFunc f d t w,R,c,A,X,E,T,s,r,D,L,h=>by
   cases hg:ev s.sl f with
   |clo g W=>
    have e:=hg;cases hlp:oQ [] w with
    |true=>
     have h':(call (((c.u,s.fc,1),vX c.nt d.size (λu=>fR P pol N call t Mem {c with u:=u} (λH=>(sK (c.u,s.fc,1) H.m).bind λ_=>
      fR P pol N call w Mem {c with u:=u} (λF=>sK (c.u,s.fc,1) F.m) (λi F=>rE (c.u,s.fc,1) (.exit i) F.m) (λF=>rE (c.u,s.fc,1) .ret F.m) H) jA kE) d.toList s.sl)::c.hs)
      g (.yld (c.u,s.fc,1)::W) (s.m.new (c.u,s.fc,1) (.lp none))).bind (λp=>ad (c.u,s.fc,1) p.2 (X {s with m:=p.2,fc:=s.fc+1}) (T {s with m:=p.2,fc:=s.fc+1}) λi=>E i {s with m:=p.2,fc:=s.fc+1})=some r:=by
      have J:=h
      simp only[fR,hg,rD,hlp,cond_true]at J
      exact J
     rw[oZ]at h';obtain⟨⟨v,m'⟩,Q,J⟩:=h';have hm':Mono λk=>((c.u,s.fc,1),mU (ix P pol k) (c.c (A (k+1))) (c.u,s.fc,1) d t w s.sl)::A (k+1):=by intro i j hij;exact⟨rfl,λy st st' e=>xhk (c:=c.c (A (i+1))) (rT hij) (D (i+1) (j+1) (by omega)) e,D (i+1) (j+1) (by omega)⟩
     have hu':Under (((c.u,s.fc,1),vX c.nt d.size (λu=>fR P pol N call t Mem {c with u:=u} (λH=>(sK (c.u,s.fc,1) H.m).bind λ_=>
      fR P pol N call w Mem {c with u:=u} (λF=>sK (c.u,s.fc,1) F.m) (λi F=>rE (c.u,s.fc,1) (.exit i) F.m) (λF=>rE (c.u,s.fc,1) .ret F.m) H) jA kE) d.toList s.sl)::c.hs)
      λk=>((c.u,s.fc,1),mU (ix P pol k) (c.c (A (k+1))) (c.u,s.fc,1) d t w s.sl)::A (k+1):=by
      intro id h0 M y m m2 e0
      simp only[tG]at M
      by_cases hi:(c.u,s.fc,1)=id
      .rw[aH hi]at M
       cases M
       unfold vX at e0
       cases hb:(Nat.beq y.length d.size&&d.toList.all (Nat.blt · c.nt))with
       |false=>rw[hb]at e0;cases e0
       |true=>
        rw[hb,cond_true]at e0
        rw[cK]at hb
        have hl:y.length=d.size:=fJ hb.1
        obtain⟨o1,H,g1,l,g2⟩:=tH Z t (c:={c with u:=m.next}) D L e0
        have ho1:o1=.normal:=by cases o1<;>first|rfl|(simp[J2,jA,kE]at g1)
        subst ho1
        have g1':(sK (c.u,s.fc,1) H.m).bind (λ_=>fR P pol N call w Mem {c with u:=m.next} (λF=>sK (c.u,s.fc,1) F.m) (λi F=>rE (c.u,s.fc,1) (.exit i) F.m) (λF=>rE (c.u,s.fc,1) .ret F.m) H)=some m2:=g1
        rw[oZ]at g1'
        obtain⟨m1,k1,k2⟩:=g1'
        obtain⟨k3,-⟩:=xdk k1
        obtain⟨o2,F,g3,C,g4⟩:=tH Z w (c:={c with u:=m.next}) D L k2
        have hall:d.all (λx=>decide (x<c.nt))=true:=by
         rw[<-Array.all_toList,dG]
         have:=hb.2
         rw[dG]at this
         intro x hx
         exact fC (rZ (this x hx))
        have O:=rT (P:=P) (pol:=pol) (show l<=max l C by omega) _ (A (max l C+1)) _ _ _ (D l (max l C+1) (by omega)) g2
        have q2:=rT (P:=P) (pol:=pol) (show C<=max l C by omega) _ (A (max l C+1)) _ _ _ (D C (max l C+1) (by omega)) g4
        have hbd:W8 d.toList 0 y s.sl=mI d.toList y s.sl:=gy d.toList [] y s.sl (by simpa using hl)
        have q1':ix P pol (max l C) {c.c (A (max l C+1))with u:=m.st.next} t {sl:=mI d.toList y s.sl,st:={m.st with next:=m.st.next+1},fc:=0}=some (.normal,H.s):=by
         rw[<-hbd];exact O
        have q2':ix P pol (max l C) {c.c (A (max l C+1))with u:=m.st.next} w H.s=some (o2,F.s):=q2
        have hob1:H.s.st.aC (c.u,s.fc,1)=some (.lp none):=k3
        refine⟨max l C,mU (ix P pol (max l C)) (c.c (A (max l C+1))) (c.u,s.fc,1) d t w s.sl,by simp only[oT,aH hi],?_⟩
        unfold mU
        rw[aH ⟨hl,hall⟩]
        rw[q1']
        simp only[hob1]
        rw[q2']
        cases o2 with
        |normal=>
         obtain⟨g5,g6⟩:=xdk (show sK (c.u,s.fc,1) F.m=some m2 from g3)
         have Y:F.s.st.aC (c.u,s.fc,1)=some (.lp none):=g5
         simp only[Y]
         rw[g6]
         rfl
        |exit i=>
         obtain⟨g5,g6⟩:=xdj (show rE (c.u,s.fc,1) (.exit i) F.m=some m2 from g3)
         have Y:F.s.st.aC (c.u,s.fc,1)=some (.lp none):=g5
         simp only[Y]
         rw[g6,KF]
         rfl
        |ret=>
         obtain⟨g5,g6⟩:=xdj (show rE (c.u,s.fc,1) .ret F.m=some m2 from g3)
         have Y:F.s.st.aC (c.u,s.fc,1)=some (.lp none):=g5
         simp only[Y]
         rw[g6,KF]
         rfl
      .rw[aD hi]at M
       obtain⟨n,g,g1,g2⟩:=Under.shift D L id h0 M y m m2 e0
       exact⟨n,g,by simp only[oT];rw[aD hi];exact g1,g2⟩
     obtain⟨n,hn⟩:=Z _ _ _ _ _ _ _ hm' hu' Q;have hn':gU P pol n ((((c.c (A (n+1))).u,s.s.fc,1),mU (ix P pol n) (c.c (A (n+1))) ((c.c (A (n+1))).u,s.s.fc,1) d t w s.s.sl)::(c.c (A (n+1))).hs) g (.yld ((c.c (A (n+1))).u,s.s.fc,1)::W) {s.s.st with aC:=bP s.s.st.aC ((c.c (A (n+1))).u,s.s.fc,1) (some (.lp none))}=some (v,m'.st):=(by rw[xqc]at hn;exact hn);have fin:∀o:Out,(m'.get (c.u,s.fc,1)=some (.lp none)/\o=.normal\/m'.get (c.u,s.fc,1)=some (.lp (some o)))->Runs P pol A c (.rangeFunc f d t w) s.s o ({s with m:=m',fc:=s.fc+1}:Fs).s:=by
      intro o ho;refine⟨n+1,?_⟩;rw[xgs,show ev s.s.sl f=.clo g W from hg];simp only[hlp,bV];rw[hn'];simp only
      rcases ho with ⟨ho,rfl⟩|ho
      .rw[show m'.st.aC ((c.c (A (n+1))).u,s.s.fc,1)=some (.lp none)from ho];rfl
      .rw[show m'.st.aC ((c.c (A (n+1))).u,s.s.fc,1)=some (.lp (some o))from ho];rfl
     simp only[ad]at J;split at J
     .rename_i ho;exact⟨.normal,_,J,fin _ (.inl ⟨ho,rfl⟩)⟩
     .rename_i ho;exact⟨.ret,_,J,fin _ (.inr ho)⟩
     .rename_i i ho;exact⟨.exit i,_,J,fin _ (.inr ho)⟩
     .cases J
    |false=>
     have h':(call (((c.u,s.fc,0),vX c.nt d.size (λu=>fR P pol N call t Mem {c with u:=u} (fR P pol N call w Mem {c with u:=u} (λF=>some F.m) jA kE) jA kE) d.toList s.sl)::c.hs)
      g (.yld (c.u,s.fc,0)::W) s.m).bind (λp=>X {s with m:=p.2,fc:=s.fc+1})=some r:=by
      have J:=h
      simp only[fR,hg,rD,hlp,cond_false]at J
      exact J
     rw[oZ]at h';obtain⟨⟨v,m'⟩,Q,J⟩:=h';have hm':Mono λk=>((c.u,s.fc,0),wV P pol k (c.c (A (k+1))) d t w s.sl)::A (k+1):=by intro i j hij;exact⟨rfl,λy st st' e=>x34 hij (D (i+1) (j+1) (by omega)) e,D (i+1) (j+1) (by omega)⟩
     have hu':Under (((c.u,s.fc,0),vX c.nt d.size (λu=>fR P pol N call t Mem {c with u:=u} (fR P pol N call w Mem {c with u:=u} (λF=>some F.m) jA kE) jA kE) d.toList s.sl)::c.hs)
      λk=>((c.u,s.fc,0),wV P pol k (c.c (A (k+1))) d t w s.sl)::A (k+1):=by
      intro id h0 M y m m2 e0;simp only[tG]at M;by_cases hi:(c.u,s.fc,0)=id
      .rw[aH hi]at M;cases M;unfold vX at e0;cases hb:(Nat.beq y.length d.size&&d.toList.all (Nat.blt · c.nt))with
       |false=>rw[hb]at e0;cases e0
       |true=>
        rw[hb,cond_true]at e0;rw[cK]at hb;have hl:y.length=d.size:=fJ hb.1;obtain⟨o1,H,g1,l,g2⟩:=tH Z t (c:={c with u:=m.next}) D L e0;have ho1:o1=.normal:=(by cases o1<;>first|rfl|(simp[J2,jA,kE]at g1));subst ho1;obtain⟨o2,F,g3,C,g4⟩:=tH Z w (c:={c with u:=m.next}) D L (show fR P pol N call w Mem {c with u:=m.next} (λF=>some F.m) jA kE H=some m2 from g1);have ho2:o2=.normal:=(by cases o2<;>first|rfl|(simp[J2,jA,kE]at g3));subst ho2;have g5:F.m=m2:=(by simpa[J2]using g3);subst g5;refine⟨max l C,wV P pol (max l C) (c.c (A (max l C+1))) d t w s.sl,by simp only[oT,aH hi],?_⟩;unfold wV;have hall:d.all (λx=>decide (x<c.nt))=true:=(by rw[<-Array.all_toList,dG];have:=hb.2;rw[dG]at this;intro x hx;exact fC (rZ (this x hx)));rw[aH ⟨hl,hall⟩];have O:=rT (P:=P) (pol:=pol) (show l<=max l C by omega) _ (A (max l C+1)) _ _ _ (D l (max l C+1) (by omega)) g2;have q2:=rT (P:=P) (pol:=pol) (show C<=max l C by omega) _ (A (max l C+1)) _ _ _ (D C (max l C+1) (by omega)) g4;have hbd:W8 d.toList 0 y s.sl=mI d.toList y s.sl:=gy d.toList [] y s.sl (by simpa using hl);have q1':ix P pol (max l C) {c.c (A (max l C+1))with u:=m.st.next} t {sl:=mI d.toList y s.sl,st:={m.st with next:=m.st.next+1},fc:=0}=some (.normal,H.s):=(by rw[<-hbd];exact O);have q2':ix P pol (max l C) {c.c (A (max l C+1))with u:=m.st.next} w H.s=some (.normal,F.s):=q2;simp only
        rw[q1'];simp only
        rw[q2'];rfl
      .rw[aD hi]at M;obtain⟨n,g,g1,g2⟩:=Under.shift D L id h0 M y m m2 e0;exact⟨n,g,by simp only[oT];rw[aD hi];exact g1,g2⟩
     obtain⟨n,hn⟩:=Z _ _ _ _ _ _ _ hm' hu' Q;refine⟨.normal,{s with m:=m',fc:=s.fc+1},J,n+1,?_⟩;rw[xgs,show ev s.s.sl f=.clo g W from e];simp only[hlp,fE,cJ];have hn':gU P pol n ((((c.c (A (n+1))).u,s.s.fc,0),wV P pol n (c.c (A (n+1))) d t w s.s.sl)::(c.c (A (n+1))).hs) g (.yld ((c.c (A (n+1))).u,s.s.fc,0)::W) s.s.st=some (v,m'.st):=hn;rw[hn'];rfl
   |_=>simp[fR,rD,hg]at h
 | .scope _,R,c,A,X,E,T,s,r,D,L,h=>by simp[fR,kE]at h
 | .goto _,R,c,A,X,E,T,s,r,D,L,h=>by simp[fR,kE]at h
 | .label _,R,c,A,X,E,T,s,r,D,L,h=>by simp[fR,kE]at h
 | .refuse _,R,c,A,X,E,T,s,r,D,L,h=>by simp[fR,kE]at h
def ef{d:Nat->AV}{m:Mem}{Y:Nat}:∀{e:List ResultVar} {k:List AV->Option R} {r:R},GC P d m e k=some r->∃l,rG P e {sl:=d,st:=m.st,fc:=Y}=some l/\k l=some r
 |[],k,r,h=>⟨[],rfl,h⟩
 | .tmp t::e,k,r,h=>by obtain⟨l,b,f⟩:=ef (Y:=Y) (k:=λl=>k (d t::l)) h;exact⟨d t::l,by simp only[rG,b],f⟩
 | .cell a t::e,k,r,h=>by
   simp only[GC]at h;split at h
   .rename_i g z i;rw[oZ]at h;obtain⟨v,b,f⟩:=h;obtain⟨l,A,C⟩:=ef (Y:=Y) (k:=λl=>k (v::l)) f;refine⟨v::l,?_,C⟩;unfold gT aA at b;split at b
    .rename_i id j n o;simp only at b;split at b
     .rename_i p u w x;split at b
      .rename_i y;have e3':m.st.aC id=some (.row p u w):=x;simp only[rG,i,o,e3',aH y,b,A]
      .cases b
     .cases b
    .cases b
   .cases h
def x4h{b:List ResultVar}{s:Fs}{v:AV}{m:Mem}(h:gF P b s=some (v,m)):m=s.m/\∃l,rG P b s.s=some l/\((∃x,l=[x]/\v=x)\/((∀x,l≠[x])/\v=.tup l)):=by
 unfold gF at h;obtain⟨l,d,a⟩:=ef (Y:=s.fc) h;split at a
 .rename_i x;cases a;exact⟨rfl,_,d,Or.inl ⟨_,rfl,rfl⟩⟩
 .rename_i e;cases a;exact⟨rfl,_,d,Or.inr ⟨e,rfl⟩⟩
def x4z(M:xN P pol call){Z:FHs}{A:Nat->Hs}{f:FuncId}{a:List AV}{m y:Mem}{r:AV}(O:Mono A)(Q:Under Z A)(h:wY P pol N call Z f a m=some (r,y)):∃n,gU P pol n (A n) f a m.st=some (r,y.st):=by
 unfold wY at h;cases t:Nat.beq (pol f iV) 0 with
 |false=>
  rw[t,cond_false]at h;refine⟨0,?_⟩;unfold gU sX;rw[aH (by intro e;rw[e]at t;cases t)];unfold xck at h;unfold BV;cases w:Nat.beq (pol f iV) 3 with
  |false=>
   rw[w,cond_false]at h;rw[cond_false];cases K:Nat.ble 16 (pol f iV)with
   |true=>
    rw[K,cond_true]at h;rw[cond_true];cases L:Nat.beq (pol f iV % 2) 0 with
    |true=>rw[L,cond_true]at h;simp only[cH,bH]at h;obtain⟨r0,b,rfl,rfl⟩:=h;have e3':ZK (pol f iV / 2000) (pol f iV / 2 % 1000) m.st.aC a=some r0:=b;rw[cond_true,e3'];rfl
    |false=>rw[L,cond_false]at h;simp only[cH,bH]at h;obtain⟨p,b,rfl,rfl⟩:=h;have e3':ZJ (pol f iV / 2000) (pol f iV / 2 % 1000) m.st.aC a=some p:=b;rw[cond_false,e3',KF];rfl
   |false=>
   rw[K,cond_false]at h;rw[cond_false];cases j:Nat.ble 4 (pol f iV)with
   |false=>rw[j,cond_false]at h;simp only[cH,bH]at h;obtain⟨r0,b,rfl,rfl⟩:=h;rw[cond_false,b];rfl
   |true=>rw[j,cond_true]at h;simp only[cH,bH]at h;obtain⟨r0,b,rfl,rfl⟩:=h;have e3':ZI (pol f iV) a m.st.aC=some r0:=b;rw[cond_true,e3'];rfl
  |true=>rw[w,cond_true]at h;simp only[cH,bH]at h;obtain⟨p,b,rfl,rfl⟩:=h;have e3':ZL a m.st.aC=some p:=b;rw[cond_true,e3',KF];rfl
 |true=>
 rw[t,cond_true]at h;have g:¬pol f iV≠0:=(by intro e;exact e (fJ t));split at h
 .rename_i fn E;split at h
  .rename_i d C;split at h
   .rename_i b;obtain⟨o,H,F,n,W⟩:=tH M d (c:={f:=f,u:=m.next,nt:=fn.ntmps,hs:=Z}) O Q h;have h1':o=.normal\/o=.ret:=by
     cases o with
     |exit i=>simp[J2,jA]at F
     |normal=>exact Or.inl rfl
     |ret=>exact Or.inr rfl
    have w:gF P fn.results.toList H=some (r,y):=(by rcases h1' with rfl|rfl<;>exact F);obtain⟨rfl,l,j,J⟩:=x4h w;refine⟨n,?_⟩;unfold gU sX;rw[aD g,E];simp only
    rw[C];simp only
    rw[aH b];have h2':ix P pol n {f:=f,u:=m.st.next,nt:=fn.ntmps,hs:=A n} d {sl:=nU a,st:={m.st with next:=m.st.next+1},fc:=0}=some (o,H.s):=W;rw[h2'];rcases h1' with rfl|rfl
    .simp only
     rw[j];rcases J with ⟨x,rfl,rfl⟩|⟨D,rfl⟩
     .rfl
     .split
      .rename_i R e;cases e;exact absurd rfl (D _)
      .rename_i e;cases e;rfl
      .rename_i e;cases e
    .simp only
     rw[j];rcases J with ⟨x,rfl,rfl⟩|⟨D,rfl⟩
     .rfl
     .split
      .rename_i R e;cases e;exact absurd rfl (D _)
      .rename_i e;cases e;rfl
      .rename_i e;cases e
   .cases h
  .rename_i C;simp only[cH,bH]at h;obtain⟨r0,b,rfl,rfl⟩:=h;refine⟨0,?_⟩;unfold gU sX;rw[aD g,E];simp only
   rw[C];simp only
   rw[b];rfl
 .cases h
end Go.Ix
