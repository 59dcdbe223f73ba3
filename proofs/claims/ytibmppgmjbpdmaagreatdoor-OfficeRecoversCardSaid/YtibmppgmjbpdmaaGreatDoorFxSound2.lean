import Derived.Test.YtibmppgmjbpdmaaGreatDoorFxSound
import Derived.Test.YtibmppgmjbpdmaaGreatDoorFxRules
set_option linter.unusedSimpArgs false
namespace Go.Ix
variable{P:Program}{pol:Pol}{N:Nat}{call:x14p}{R:Type}
def Kont(X:Fs->Option R)(E:Nat->Fs->Option R)(T:Fs->Option R):Out->Fs->Option R
 | .normal=>X
 | .exit i=>E i
 | .ret=>T
def Runs(P:Program)(pol:Pol)(A:Nat->Hs)(c:FCtx)(code:Code)(s:S)(o:Out)(s':S):Prop:=∃n,ix P pol n (c.c (A n)) code s=some (o,s')
theorem Runs.at{A:Nat->Hs}(hm:Mono A){c:FCtx}{code:Code}{s s':S}{o:Out}{n m:Nat}(h:ix P pol n (c.c (A n)) code s=some (o,s'))(hnm:n<=m):ix P pol m (c.c (A m)) code s=some (o,s'):=
 x17a hnm (c.c (A n)) (A m) code s (o,s') (hm n m hnm) h
theorem x1co:∀(ps:List Tmp) (pre args:List AV) (sl:Nat->AV),args.length=ps.length->x1a0 ps pre.length (pre++args) sl=x16h ps args sl
 |[],pre,[],sl,_=>rfl
 |[],pre,_::_,sl,h=>by simp at h
 |p::ps,pre,[],sl,h=>by simp at h
 |p::ps,pre,a::q,sl,h=>by
  simp only[x1a0,x16h]
  have:(pre++a::q).getD pre.length U=a:=by simp[x1q3]
  rw[this]
  have:=x1co ps (pre++[a]) q (upd sl p a) (by simpa using h)
  rw[x1pn,x1qi]at this
  exact this
noncomputable def hOf(P:Program)(pol:Pol)(n:Nat)(c:Ctx)(params:Array Tmp)(assign body:Code)(sl:Nat->AV):List AV->St->Option St:=λargs st=>
 if args.length=params.size/\params.all (· < c.nt)then
  let c':={c with u:=st.next}
  let s0:S:={sl:=x16h params.toList args sl,st:={st with next:=st.next+1},fc:=0}
  match ix P pol n c' assign s0 with
  |some (.normal,s1)=>match ix P pol n c' body s1 with
   |some (.normal,s2)=>some s2.st
   |_=>none
  |_=>none
 else none
theorem hOf_le{n m:Nat}(h:n<=m){c:Ctx}{hs':Hs}(hh:HLe c.hs hs'){params:Array Tmp}{assign body:Code}{sl:Nat->AV}{args:List AV}{st st':St}(e:hOf P pol n c params assign body sl args st=some st') :
 hOf P pol m {c with hs:=hs' } params assign body sl args st=some st':=by
 unfold hOf at e ⊢
 simp only at e ⊢
 split at e
 .rename_i hc
  rw[x1p0 hc]
  split at e
  .rename_i s1 e1
   have q1:=x17a h {c with u:=st.next} hs' _ _ _ hh e1
   simp only at q1
   rw[q1]
   simp only
   split at e
   .rename_i s2 e2
    have q2:=x17a h {c with u:=st.next} hs' _ _ _ hh e2
    simp only at q2
    rw[q2]
    exact e
   .cases e
  .cases e
 .cases e
theorem ix_rng{n:Nat}{c:Ctx}{f:Operand}{params:Array Tmp}{assign body:Code}{s:S}:ix P pol (n+1) c (.rangeFunc f params assign body) s=(match ev s.sl f with
 | .clo g caps=>
   if x16q [] body then
    match x15o P pol n (((c.u,s.fc,1),x16r (ix P pol n) c (c.u,s.fc,1) params assign body s.sl)::c.hs) g (.yld (c.u,s.fc,1)::caps) {s.st with objs:=updo s.st.objs (c.u,s.fc,1) (some (.lp none))}with
    |some (_,st')=>match st'.objs (c.u,s.fc,1)with
     |some (.lp none)=>some (.normal,{s with st:=st',fc:=s.fc+1})
     |some (.lp (some o))=>some (o,{s with st:=st',fc:=s.fc+1})
     |_=>none
    |none=>none
   else match x15o P pol n (((c.u,s.fc,0),hOf P pol n c params assign body s.sl)::c.hs) g (.yld (c.u,s.fc,0)::caps) s.st with
   |some (_,st')=>some (.normal,{s with st:=st',fc:=s.fc+1})
   |none=>none
 |_=>none):=rfl
theorem lpB_get{id:Id}{m:Mem}(h:lpB id m=true):m.get id=some (.lp none):=by
 unfold lpB at h
 split at h
 .assumption
 .cases h
theorem x1et{id:Id}{m m':Mem}(h:sLpN id m=some m'):m.get id=some (.lp none)/\m'=m:=by
 unfold sLpN at h
 cases hb:lpB id m with
 |false=>rw[hb]at h;cases h
 |true=>rw[hb]at h;cases h;exact⟨lpB_get hb,rfl⟩
theorem x1eu{id:Id}{o:Out}{m m':Mem}(h:sLpX id o m=some m'):m.get id=some (.lp none)/\m'=m.set id (.lp (some o)):=by
 unfold sLpX at h
 cases hb:lpB id m with
 |false=>rw[hb]at h;cases h
 |true=>rw[hb]at h;cases h;exact⟨lpB_get hb,rfl⟩
theorem st_new(m:Mem)(id:Id)(o:Ob):(m.new id o).st={m.st with objs:=updo m.st.objs id (some o)}:=by
 show({objs:=(m.new id o).get,next:=m.next}:St)=_
 rw[Mem.get_new'];rfl
theorem x1bj(m:Mem)(id:Id)(o:Ob):(m.set id o).st={m.st with objs:=updo m.st.objs id (some o)}:=by
 show({objs:=(m.set id o).get,next:=m.next}:St)=_
 rw[Mem.get_set'];rfl
theorem x17k(hc:x18d P pol call):∀(code:Code) {R:Type} {c:FCtx} {A:Nat->Hs} {X:Fs->Option R} {E:Nat->Fs->Option R} {T:Fs->Option R} {s:Fs} {r:R},Mono A->Under c.hs A ->
 fxK P pol N call code R c X E T s=some r->∃o s',Kont X E T o s'=some r/\Runs P pol A c code s.s o s'.s
 | .skip,R,c,A,X,E,T,s,r,hm,hu,h=>⟨.normal,s,h,1,rfl⟩
 | .region id ops draw,R,c,A,X,E,T,s,r,hm,hu,h=>by
   obtain⟨s',h1,n,h2⟩:=freg_ok hc hm hu h
   refine⟨.normal,s',h1,n+1,?_⟩
   have h3:=x1ee (callLe (P:=P) (pol:=pol) (x1p6 n)) (hm n (n+1) (by omega)) h2
   show(x178 P pol (x15o P pol n) (c.c (A (n+1))) ops draw s.s).map (λs'=>(Out.normal,s'))=_
   rw[show x178 P pol (x15o P pol n) (c.c (A (n+1))) ops draw s.s=some s'.s from h3]
   rfl
 | .seq a b,R,c,A,X,E,T,s,r,hm,hu,h=>by
   obtain⟨o,s1,h1,n1,h2⟩:=x17k hc a hm hu h
   cases o with
   |normal=>
    obtain⟨o2,s2,h3,n2,h4⟩:=x17k hc b hm hu (show fxK P pol N call b R c X E T s1=some r from h1)
    refine⟨o2,s2,h3,max n1 n2+1,?_⟩
    have q1:=Runs.at hm h2 (show n1<=max n1 n2+1 by omega)
    have q2:=Runs.at hm h4 (show n2<=max n1 n2+1 by omega)
    show(match ix P pol (max n1 n2+1) (c.c (A (max n1 n2+1))) a s.s with
     |some (.normal,s')=>ix P pol (max n1 n2+1) (c.c (A (max n1 n2+1))) b s'
     |r=>r)=_
    rw[q1]
    exact q2
   |exit i=>
    refine⟨.exit i,s1,h1,n1+1,?_⟩
    have q1:=Runs.at hm h2 (show n1<=n1+1 by omega)
    show(match ix P pol (n1+1) (c.c (A (n1+1))) a s.s with
     |some (.normal,s')=>ix P pol (n1+1) (c.c (A (n1+1))) b s'
     |r=>r)=_
    rw[q1]
   |ret=>
    refine⟨.ret,s1,h1,n1+1,?_⟩
    have q1:=Runs.at hm h2 (show n1<=n1+1 by omega)
    show(match ix P pol (n1+1) (c.c (A (n1+1))) a s.s with
     |some (.normal,s')=>ix P pol (n1+1) (c.c (A (n1+1))) b s'
     |r=>r)=_
    rw[q1]
 | .cond x a b,R,c,A,X,E,T,s,r,hm,hu,h=>by
   have h':x14o (ev s.sl x) (fxK P pol N call a R c X E T s) (fxK P pol N call b R c X E T s)=some r:=h
   unfold x14o at h'
   split at h'
   .rename_i e
    obtain⟨o,s1,h1,n1,h2⟩:=x17k hc a hm hu h'
    refine⟨o,s1,h1,n1+1,?_⟩
    have q1:=Runs.at hm h2 (show n1<=n1+1 by omega)
    show(match ev s.s.sl x with
     | .sc (.bool true)=>ix P pol (n1+1) (c.c (A (n1+1))) a s.s
     | .sc (.bool false)=>ix P pol (n1+1) (c.c (A (n1+1))) b s.s
     |_=>none)=_
    rw[show ev s.s.sl x=.sc (.bool true)from e]
    exact q1
   .rename_i e
    obtain⟨o,s1,h1,n1,h2⟩:=x17k hc b hm hu h'
    refine⟨o,s1,h1,n1+1,?_⟩
    have q1:=Runs.at hm h2 (show n1<=n1+1 by omega)
    show(match ev s.s.sl x with
     | .sc (.bool true)=>ix P pol (n1+1) (c.c (A (n1+1))) a s.s
     | .sc (.bool false)=>ix P pol (n1+1) (c.c (A (n1+1))) b s.s
     |_=>none)=_
    rw[show ev s.s.sl x=.sc (.bool false)from e]
    exact q1
   .cases h'
 | .block id b,R,c,A,X,E,T,s,r,hm,hu,h=>by
   obtain⟨o,s1,h1,n1,h2⟩:=x17k hc b hm hu h
   have q1:=Runs.at hm h2 (show n1<=n1+1 by omega)
   have key:∀o':Out,(match (some (o,s1.s):Option (Out×S))with|some (Out.exit id',s')=>if id'=id then some (Out.normal,s')else some (Out.exit id',s')|r=>r)=some (o',s1.s)->Runs P pol A c (.block id b) s.s o' s1.s:=by
    intro o' e
    refine⟨n1+1,?_⟩
    show(match ix P pol (n1+1) (c.c (A (n1+1))) b s.s with
     |some (Out.exit id',s')=>if id'=id then some (Out.normal,s')else some (Out.exit id',s')
     |r=>r)=_
    rw[q1]
    exact e
   cases o with
   |normal=>exact⟨.normal,s1,h1,key _ rfl⟩
   |ret=>exact⟨.ret,s1,h1,key _ rfl⟩
   |exit i=>
    have h1':(bif Nat.beq i id then X s1 else E i s1)=some r:=h1
    by_cases hi:i=id
    .subst hi
     rw[show Nat.beq i i=true from by simp]at h1'
     exact⟨.normal,s1,h1',key _ (by simp)⟩
    .rw[show Nat.beq i id=false from by rw[x1pv];intro e;exact hi (x1p8 e)]at h1'
     exact⟨.exit i,s1,h1',key _ (by simp[hi])⟩
 | .loop b,R,c,A,X,E,T,s,r,hm,hu,h=>by
   have key:∀(j:Nat) (s:Fs),iter (λrec=>fxK P pol N call b R c rec E T) j s=some r->∃o s',Kont X E T o s'=some r/\Runs P pol A c (.loop b) s.s o s'.s:=by
    intro j
    induction j with
    |zero=>intro s h;simp[iter]at h
    |succ j ih=>
     intro s h
     obtain⟨o,s1,h1,n1,h2⟩:=x17k hc b hm hu (show fxK P pol N call b R c (iter (λrec=>fxK P pol N call b R c rec E T) j) E T s=some r from h)
     cases o with
     |normal=>
      obtain⟨o2,s2,h3,n2,h4⟩:=ih s1 h1
      refine⟨o2,s2,h3,max n1 n2+1,?_⟩
      have q1:=Runs.at hm h2 (show n1<=max n1 n2+1 by omega)
      have q2:=x17a (show n2<=max n1 n2 by omega) (c.c (A n2)) (A (max n1 n2+1)) _ _ _ (hm n2 (max n1 n2+1) (by omega)) h4
      show(match ix P pol (max n1 n2+1) (c.c (A (max n1 n2+1))) b s.s with
       |some (.normal,s')=>ix P pol (max n1 n2) (c.c (A (max n1 n2+1))) (.loop b) s'
       |r=>r)=_
      rw[q1]
      exact q2
     |exit i=>
      refine⟨.exit i,s1,h1,n1+1,?_⟩
      have q1:=Runs.at hm h2 (show n1<=n1+1 by omega)
      show(match ix P pol (n1+1) (c.c (A (n1+1))) b s.s with
       |some (.normal,s')=>ix P pol n1 (c.c (A (n1+1))) (.loop b) s'
       |r=>r)=_
      rw[q1]
     |ret=>
      refine⟨.ret,s1,h1,n1+1,?_⟩
      have q1:=Runs.at hm h2 (show n1<=n1+1 by omega)
      show(match ix P pol (n1+1) (c.c (A (n1+1))) b s.s with
       |some (.normal,s')=>ix P pol n1 (c.c (A (n1+1))) (.loop b) s'
       |r=>r)=_
      rw[q1]
   exact key N s h
 | .exit id,R,c,A,X,E,T,s,r,hm,hu,h=>⟨.exit id,s,h,1,rfl⟩
 | .ret,R,c,A,X,E,T,s,r,hm,hu,h=>⟨.ret,s,h,1,rfl⟩
 | .rangeFunc f params assign body,R,c,A,X,E,T,s,r,hm,hu,h=>by
   cases hg:ev s.sl f with
   |clo g caps=>
    have e:=hg
    cases hlp:x16q [] body with
    |true=>
     have h':(call (((c.u,s.fc,1),rndF c.nt params.size (λu=>fxK P pol N call assign Mem {c with u:=u} (λs1=>(sLpN (c.u,s.fc,1) s1.m).bind λ_=>
      fxK P pol N call body Mem {c with u:=u} (λs2=>sLpN (c.u,s.fc,1) s2.m) (λi s2=>sLpX (c.u,s.fc,1) (.exit i) s2.m) (λs2=>sLpX (c.u,s.fc,1) .ret s2.m) s1) eNil fNil) params.toList s.sl)::c.hs)
      g (.yld (c.u,s.fc,1)::caps) (s.m.new (c.u,s.fc,1) (.lp none))).bind (λp=>sLp (c.u,s.fc,1) p.2 (X {s with m:=p.2,fc:=s.fc+1}) (T {s with m:=p.2,fc:=s.fc+1}) λi=>E i {s with m:=p.2,fc:=s.fc+1})=some r:=by
      have h2:=h
      simp only[fxK,hg,sRng,hlp,cond_true]at h2
      exact h2
     rw[x1q7]at h'
     obtain⟨⟨v,m'⟩,h1,h2⟩:=h'
     have hm':Mono λk=>((c.u,s.fc,1),x16r (ix P pol k) (c.c (A (k+1))) (c.u,s.fc,1) params assign body s.sl)::A (k+1):=by
      intro i j hij
      exact⟨rfl,λargs st st' e=>x1ef (c:=c.c (A (i+1))) (x17a hij) (hm (i+1) (j+1) (by omega)) e,hm (i+1) (j+1) (by omega)⟩
     have hu':Under (((c.u,s.fc,1),rndF c.nt params.size (λu=>fxK P pol N call assign Mem {c with u:=u} (λs1=>(sLpN (c.u,s.fc,1) s1.m).bind λ_=>
      fxK P pol N call body Mem {c with u:=u} (λs2=>sLpN (c.u,s.fc,1) s2.m) (λi s2=>sLpX (c.u,s.fc,1) (.exit i) s2.m) (λs2=>sLpX (c.u,s.fc,1) .ret s2.m) s1) eNil fNil) params.toList s.sl)::c.hs)
      λk=>((c.u,s.fc,1),x16r (ix P pol k) (c.c (A (k+1))) (c.u,s.fc,1) params assign body s.sl)::A (k+1):=by
      intro id h0 hid args m m2 e0
      simp only[x17t]at hid
      by_cases hi:(c.u,s.fc,1)=id
      .rw[x1p0 hi]at hid
       cases hid
       unfold rndF at e0
       cases hb:(Nat.beq args.length params.size&&params.toList.all (Nat.blt · c.nt))with
       |false=>rw[hb]at e0;cases e0
       |true=>
        rw[hb,cond_true]at e0
        rw[x1p4]at hb
        have hl:args.length=params.size:=x1p8 hb.1
        obtain⟨o1,s1,g1,n1,g2⟩:=x17k hc assign (c:={c with u:=m.next}) hm hu e0
        have ho1:o1=.normal:=by cases o1<;>first|rfl|(simp[Kont,eNil,fNil]at g1)
        subst ho1
        have g1':(sLpN (c.u,s.fc,1) s1.m).bind (λ_=>fxK P pol N call body Mem {c with u:=m.next} (λs2=>sLpN (c.u,s.fc,1) s2.m) (λi s2=>sLpX (c.u,s.fc,1) (.exit i) s2.m) (λs2=>sLpX (c.u,s.fc,1) .ret s2.m) s1)=some m2:=g1
        rw[x1q7]at g1'
        obtain⟨m1,k1,k2⟩:=g1'
        obtain⟨k3,-⟩:=x1et k1
        obtain⟨o2,s2,g3,n2,g4⟩:=x17k hc body (c:={c with u:=m.next}) hm hu k2
        have hall:params.all (λx=>decide (x<c.nt))=true:=by
         rw[<-Array.all_toList,x1p5]
         have:=hb.2
         rw[x1p5]at this
         intro x hx
         exact x1pm (x1qd (this x hx))
        have q1:=x17a (P:=P) (pol:=pol) (show n1<=max n1 n2 by omega) _ (A (max n1 n2+1)) _ _ _ (hm n1 (max n1 n2+1) (by omega)) g2
        have q2:=x17a (P:=P) (pol:=pol) (show n2<=max n1 n2 by omega) _ (A (max n1 n2+1)) _ _ _ (hm n2 (max n1 n2+1) (by omega)) g4
        have hbd:x1a0 params.toList 0 args s.sl=x16h params.toList args s.sl:=x1co params.toList [] args s.sl (by simpa using hl)
        have q1':ix P pol (max n1 n2) {c.c (A (max n1 n2+1))with u:=m.st.next} assign {sl:=x16h params.toList args s.sl,st:={m.st with next:=m.st.next+1},fc:=0}=some (.normal,s1.s):=by
         rw[<-hbd];exact q1
        have q2':ix P pol (max n1 n2) {c.c (A (max n1 n2+1))with u:=m.st.next} body s1.s=some (o2,s2.s):=q2
        have hob1:s1.s.st.objs (c.u,s.fc,1)=some (.lp none):=k3
        refine⟨max n1 n2,x16r (ix P pol (max n1 n2)) (c.c (A (max n1 n2+1))) (c.u,s.fc,1) params assign body s.sl,by simp only[hsAt,x1p0 hi],?_⟩
        unfold x16r
        rw[x1p0 ⟨hl,hall⟩]
        rw[q1']
        simp only[hob1]
        rw[q2']
        cases o2 with
        |normal=>
         obtain⟨g5,g6⟩:=x1et (show sLpN (c.u,s.fc,1) s2.m=some m2 from g3)
         have hob2:s2.s.st.objs (c.u,s.fc,1)=some (.lp none):=g5
         simp only[hob2]
         rw[g6]
         rfl
        |exit i=>
         obtain⟨g5,g6⟩:=x1eu (show sLpX (c.u,s.fc,1) (.exit i) s2.m=some m2 from g3)
         have hob2:s2.s.st.objs (c.u,s.fc,1)=some (.lp none):=g5
         simp only[hob2]
         rw[g6,x1bj]
         rfl
        |ret=>
         obtain⟨g5,g6⟩:=x1eu (show sLpX (c.u,s.fc,1) .ret s2.m=some m2 from g3)
         have hob2:s2.s.st.objs (c.u,s.fc,1)=some (.lp none):=g5
         simp only[hob2]
         rw[g6,x1bj]
         rfl
      .rw[x1oz hi]at hid
       obtain⟨n,g,g1,g2⟩:=Under.shift hm hu id h0 hid args m m2 e0
       exact⟨n,g,by simp only[hsAt];rw[x1oz hi];exact g1,g2⟩
     obtain⟨n,hn⟩:=hc _ _ _ _ _ _ _ hm' hu' h1
     have hn':x15o P pol n ((((c.c (A (n+1))).u,s.s.fc,1),x16r (ix P pol n) (c.c (A (n+1))) ((c.c (A (n+1))).u,s.s.fc,1) params assign body s.s.sl)::(c.c (A (n+1))).hs) g (.yld ((c.c (A (n+1))).u,s.s.fc,1)::caps) {s.s.st with objs:=updo s.s.st.objs ((c.c (A (n+1))).u,s.s.fc,1) (some (.lp none))}=some (v,m'.st):=by
      rw[st_new]at hn
      exact hn
     have fin:∀o:Out,(m'.get (c.u,s.fc,1)=some (.lp none)/\o=.normal\/m'.get (c.u,s.fc,1)=some (.lp (some o)))->Runs P pol A c (.rangeFunc f params assign body) s.s o ({s with m:=m',fc:=s.fc+1}:Fs).s:=by
      intro o ho
      refine⟨n+1,?_⟩
      rw[ix_rng,show ev s.s.sl f=.clo g caps from hg]
      simp only[hlp,x1pk]
      rw[hn']
      simp only
      rcases ho with ⟨ho,rfl⟩|ho
      .rw[show m'.st.objs ((c.c (A (n+1))).u,s.s.fc,1)=some (.lp none)from ho]
       rfl
      .rw[show m'.st.objs ((c.c (A (n+1))).u,s.s.fc,1)=some (.lp (some o))from ho]
       rfl
     simp only[sLp]at h2
     split at h2
     .rename_i ho;exact⟨.normal,_,h2,fin _ (.inl ⟨ho,rfl⟩)⟩
     .rename_i ho;exact⟨.ret,_,h2,fin _ (.inr ho)⟩
     .rename_i i ho;exact⟨.exit i,_,h2,fin _ (.inr ho)⟩
     .cases h2
    |false=>
     have h':(call (((c.u,s.fc,0),rndF c.nt params.size (λu=>fxK P pol N call assign Mem {c with u:=u} (fxK P pol N call body Mem {c with u:=u} (λs2=>some s2.m) eNil fNil) eNil fNil) params.toList s.sl)::c.hs)
      g (.yld (c.u,s.fc,0)::caps) s.m).bind (λp=>X {s with m:=p.2,fc:=s.fc+1})=some r:=by
      have h2:=h
      simp only[fxK,hg,sRng,hlp,cond_false]at h2
      exact h2
     rw[x1q7]at h'
     obtain⟨⟨v,m'⟩,h1,h2⟩:=h'
     have hm':Mono λk=>((c.u,s.fc,0),hOf P pol k (c.c (A (k+1))) params assign body s.sl)::A (k+1):=by
      intro i j hij
      exact⟨rfl,λargs st st' e=>hOf_le hij (hm (i+1) (j+1) (by omega)) e,hm (i+1) (j+1) (by omega)⟩
     have hu':Under (((c.u,s.fc,0),rndF c.nt params.size (λu=>fxK P pol N call assign Mem {c with u:=u} (fxK P pol N call body Mem {c with u:=u} (λs2=>some s2.m) eNil fNil) eNil fNil) params.toList s.sl)::c.hs)
      λk=>((c.u,s.fc,0),hOf P pol k (c.c (A (k+1))) params assign body s.sl)::A (k+1):=by
      intro id h0 hid args m m2 e0
      simp only[x17t]at hid
      by_cases hi:(c.u,s.fc,0)=id
      .rw[x1p0 hi]at hid
       cases hid
       unfold rndF at e0
       cases hb:(Nat.beq args.length params.size&&params.toList.all (Nat.blt · c.nt))with
       |false=>rw[hb]at e0;cases e0
       |true=>
        rw[hb,cond_true]at e0
        rw[x1p4]at hb
        have hl:args.length=params.size:=x1p8 hb.1
        obtain⟨o1,s1,g1,n1,g2⟩:=x17k hc assign (c:={c with u:=m.next}) hm hu e0
        have ho1:o1=.normal:=by cases o1<;>first|rfl|(simp[Kont,eNil,fNil]at g1)
        subst ho1
        obtain⟨o2,s2,g3,n2,g4⟩:=x17k hc body (c:={c with u:=m.next}) hm hu (show fxK P pol N call body Mem {c with u:=m.next} (λs2=>some s2.m) eNil fNil s1=some m2 from g1)
        have ho2:o2=.normal:=by cases o2<;>first|rfl|(simp[Kont,eNil,fNil]at g3)
        subst ho2
        have g5:s2.m=m2:=by simpa[Kont]using g3
        subst g5
        refine⟨max n1 n2,hOf P pol (max n1 n2) (c.c (A (max n1 n2+1))) params assign body s.sl,by simp only[hsAt,x1p0 hi],?_⟩
        unfold hOf
        have hall:params.all (λx=>decide (x<c.nt))=true:=by
         rw[<-Array.all_toList,x1p5]
         have:=hb.2
         rw[x1p5]at this
         intro x hx
         exact x1pm (x1qd (this x hx))
        rw[x1p0 ⟨hl,hall⟩]
        have q1:=x17a (P:=P) (pol:=pol) (show n1<=max n1 n2 by omega) _ (A (max n1 n2+1)) _ _ _ (hm n1 (max n1 n2+1) (by omega)) g2
        have q2:=x17a (P:=P) (pol:=pol) (show n2<=max n1 n2 by omega) _ (A (max n1 n2+1)) _ _ _ (hm n2 (max n1 n2+1) (by omega)) g4
        have hbd:x1a0 params.toList 0 args s.sl=x16h params.toList args s.sl:=x1co params.toList [] args s.sl (by simpa using hl)
        have q1':ix P pol (max n1 n2) {c.c (A (max n1 n2+1))with u:=m.st.next} assign {sl:=x16h params.toList args s.sl,st:={m.st with next:=m.st.next+1},fc:=0}=some (.normal,s1.s):=by
         rw[<-hbd];exact q1
        have q2':ix P pol (max n1 n2) {c.c (A (max n1 n2+1))with u:=m.st.next} body s1.s=some (.normal,s2.s):=q2
        simp only
        rw[q1']
        simp only
        rw[q2']
        rfl
      .rw[x1oz hi]at hid
       obtain⟨n,g,g1,g2⟩:=Under.shift hm hu id h0 hid args m m2 e0
       exact⟨n,g,by simp only[hsAt];rw[x1oz hi];exact g1,g2⟩
     obtain⟨n,hn⟩:=hc _ _ _ _ _ _ _ hm' hu' h1
     refine⟨.normal,{s with m:=m',fc:=s.fc+1},h2,n+1,?_⟩
     rw[ix_rng,show ev s.s.sl f=.clo g caps from e]
     simp only[hlp,x1pj,x1p9]
     have hn':x15o P pol n ((((c.c (A (n+1))).u,s.s.fc,0),hOf P pol n (c.c (A (n+1))) params assign body s.s.sl)::(c.c (A (n+1))).hs) g (.yld ((c.c (A (n+1))).u,s.s.fc,0)::caps) s.s.st=some (v,m'.st):=hn
     rw[hn']
     rfl
   |_=>simp[fxK,sRng,hg]at h
 | .scope _,R,c,A,X,E,T,s,r,hm,hu,h=>by simp[fxK,fNil]at h
 | .goto _,R,c,A,X,E,T,s,r,hm,hu,h=>by simp[fxK,fNil]at h
 | .label _,R,c,A,X,E,T,s,r,hm,hu,h=>by simp[fxK,fNil]at h
 | .refuse _,R,c,A,X,E,T,s,r,hm,hu,h=>by simp[fxK,fNil]at h
theorem x1cp{sl:Nat->AV}{m:Mem}{fc:Nat}:∀{rs:List ResultVar} {k:List AV->Option R} {r:R},x1am P sl m rs k=some r->∃l,x179 P rs {sl:=sl,st:=m.st,fc:=fc}=some l/\k l=some r
 |[],k,r,h=>⟨[],rfl,h⟩
 | .tmp t::rs,k,r,h=>by
   obtain⟨l,h1,h2⟩:=x1cp (fc:=fc) (k:=λl=>k (sl t::l)) h
   exact⟨sl t::l,by simp only[x179,h1],h2⟩
 | .cell a t::rs,k,r,h=>by
   simp only[x1am]at h
   split at h
   .rename_i g z e1
    rw[x1q7]at h
    obtain⟨v,h1,h2⟩:=h
    obtain⟨l,h3,h4⟩:=x1cp (fc:=fc) (k:=λl=>k (v::l)) h2
    refine⟨v::l,?_,h4⟩
    unfold sLdP sLd at h1
    split at h1
    .rename_i id ver off e2
     simp only at h1
     split at h1
     .rename_i cs v' fz e3
      split at h1
      .rename_i e4
       have e3':m.st.objs id=some (.row cs v' fz):=e3
       simp only[x179,e1,e2,e3',x1p0 e4,h1,h3]
      .cases h1
     .cases h1
    .cases h1
   .cases h
theorem fres_ok{rs:List ResultVar}{s:Fs}{v:AV}{m:Mem}(h:x15a P rs s=some (v,m)):m=s.m/\∃l,x179 P rs s.s=some l/\((∃x,l=[x]/\v=x)\/((∀x,l≠[x])/\v=.tup l)):=by
 unfold x15a at h
 obtain⟨l,h1,h2⟩:=x1cp (fc:=s.fc) h
 split at h2
 .rename_i x;cases h2;exact⟨rfl,_,h1,Or.inl ⟨_,rfl,rfl⟩⟩
 .rename_i hn;cases h2;exact⟨rfl,_,h1,Or.inr ⟨hn,rfl⟩⟩
theorem fbody_ok(hc:x18d P pol call){hs:FHs}{A:Nat->Hs}{f:FuncId}{args:List AV}{m m':Mem}{r:AV}(hm:Mono A)(hu:Under hs A)(h:x18c P pol N call hs f args m=some (r,m')):∃n,x15o P pol n (A n) f args m.st=some (r,m'.st):=by
 unfold x18c at h
 cases hp:Nat.beq (pol f x15s) 0 with
 |false=>
  rw[hp,cond_false]at h
  refine⟨0,?_⟩
  unfold x15o x17j
  rw[x1p0 (by intro e;rw[e]at hp;cases hp)]
  unfold tellM at h
  unfold x18a
  cases h3:Nat.beq (pol f x15s) 3 with
  |false=>
   rw[h3,cond_false]at h
   rw[cond_false]
   cases h6:Nat.ble 16 (pol f x15s)with
   |true=>
    rw[h6,cond_true]at h
    rw[cond_true]
    cases h7:Nat.beq (pol f x15s % 2) 0 with
    |true=>
     rw[h7,cond_true]at h
     simp only[x1p3,x1p1]at h
     obtain⟨r0,e3,rfl,rfl⟩:=h
     have e3':x188 (pol f x15s / 2000) (pol f x15s / 2 % 1000) m.st.objs args=some r0:=e3
     rw[cond_true,e3']
     rfl
    |false=>
     rw[h7,cond_false]at h
     simp only[x1p3,x1p1]at h
     obtain⟨p,e3,rfl,rfl⟩:=h
     have e3':x189 (pol f x15s / 2000) (pol f x15s / 2 % 1000) m.st.objs args=some p:=e3
     rw[cond_false,e3',x1bj]
     rfl
   |false=>
   rw[h6,cond_false]at h
   rw[cond_false]
   cases h4:Nat.ble 4 (pol f x15s)with
   |false=>
    rw[h4,cond_false]at h
    simp only[x1p3,x1p1]at h
    obtain⟨r0,e3,rfl,rfl⟩:=h
    rw[cond_false,e3]
    rfl
   |true=>
    rw[h4,cond_true]at h
    simp only[x1p3,x1p1]at h
    obtain⟨r0,e3,rfl,rfl⟩:=h
    have e3':tellR (pol f x15s) args m.st.objs=some r0:=e3
    rw[cond_true,e3']
    rfl
  |true=>
   rw[h3,cond_true]at h
   simp only[x1p3,x1p1]at h
   obtain⟨p,e3,rfl,rfl⟩:=h
   have e3':tell3 args m.st.objs=some p:=e3
   rw[cond_true,e3',x1bj]
   rfl
 |true=>
 rw[hp,cond_true]at h
 have hp0:¬pol f x15s≠0:=by intro e;exact e (x1p8 hp)
 split at h
 .rename_i fn e1
  split at h
  .rename_i body e2
   split at h
   .rename_i e3
    obtain⟨o,s',h1,n,h2⟩:=x17k hc body (c:={f:=f,u:=m.next,nt:=fn.ntmps,hs:=hs}) hm hu h
    have h1':o=.normal\/o=.ret:=by
     cases o with
     |exit i=>simp[Kont,eNil]at h1
     |normal=>exact Or.inl rfl
     |ret=>exact Or.inr rfl
    have h3:x15a P fn.results.toList s'=some (r,m'):=by
     rcases h1' with rfl|rfl<;>exact h1
    obtain⟨rfl,l,h4,h5⟩:=fres_ok h3
    refine⟨n,?_⟩
    unfold x15o x17j
    rw[x1oz hp0,e1]
    simp only
    rw[e2]
    simp only
    rw[x1p0 e3]
    have h2':ix P pol n {f:=f,u:=m.st.next,nt:=fn.ntmps,hs:=A n} body {sl:=x16e args,st:={m.st with next:=m.st.next+1},fc:=0}=some (o,s'.s):=h2
    rw[h2']
    rcases h1' with rfl|rfl
    .simp only
     rw[h4]
     rcases h5 with ⟨x,rfl,rfl⟩|⟨hn,rfl⟩
     .rfl
     .split
      .rename_i v' e;cases e;exact absurd rfl (hn _)
      .rename_i e;cases e;rfl
      .rename_i e;cases e
    .simp only
     rw[h4]
     rcases h5 with ⟨x,rfl,rfl⟩|⟨hn,rfl⟩
     .rfl
     .split
      .rename_i v' e;cases e;exact absurd rfl (hn _)
      .rename_i e;cases e;rfl
      .rename_i e;cases e
   .cases h
  .rename_i e2
   simp only[x1p3,x1p1]at h
   obtain⟨r0,e3,rfl,rfl⟩:=h
   refine⟨0,?_⟩
   unfold x15o x17j
   rw[x1oz hp0,e1]
   simp only
   rw[e2]
   simp only
   rw[e3]
   rfl
 .cases h
end Go.Ix
