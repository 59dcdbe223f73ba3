import Derived.Test.YtdfahbenacjgeaaFxSound
import Derived.Test.YtdfahbenacjgeaaFxRules
set_option linter.unusedSimpArgs false
namespace Go.Ix
variable{P:Program}{pol:Pol}{N:Nat}{call:qI}{R:Type}
def u4(X:Fs->Option R)(E:Nat->Fs->Option R)(T:Fs->Option R):Out->Fs->Option R
 | .normal=>X
 | .exit i=>E i
 | .ret=>T
def Runs(P:Program)(pol:Pol)(A:Nat->Hs)(c:FCtx)(code:Code)(s:S)(o:Out)(s':S):Prop:=∃n,ix P pol n (c.c (A n)) code s=some (o,s')
theorem Runs.at{A:Nat->Hs}(hm:Mono A){c:FCtx}{code:Code}{s s':S}{o:Out}{n m:Nat}(h:ix P pol n (c.c (A n)) code s=some (o,s'))(hnm:n<=m):ix P pol m (c.c (A m)) code s=some (o,s'):=
 wC hnm (c.c (A n)) (A m) code s (o,s') (hm n m hnm) h
theorem S2:∀(ps:List Tmp) (pre args:List AV) (sl:Nat->AV),args.length=ps.length->z6 ps pre.length (pre++args) sl=uI ps args sl
 |[],pre,[],sl,_=>rfl
 |[],pre,_::_,sl,h=>by simp at h
 |p::ps,pre,[],sl,h=>by simp at h
 |p::ps,pre,a::q,sl,h=>by simp only[z6,uI];have:(pre++a::q).getD pre.length U=a:=(by simp[xcg]);rw[this];have:=S2 ps (pre++[a]) q (upd sl p a) (by simpa using h);rw[xdx,xfd]at this;exact this
noncomputable def hOf(P:Program)(pol:Pol)(n:Nat)(c:Ctx)(params:Array Tmp)(assign body:Code)(sl:Nat->AV):List AV->St->Option St:=λargs st=>
 if args.length=params.size/\params.all (· < c.nt)then
  let c':={c with u:=st.next}
  let s0:S:={sl:=uI params.toList args sl,st:={st with next:=st.next+1},fc:=0}
  match ix P pol n c' assign s0 with
  |some (.normal,s1)=>match ix P pol n c' body s1 with
   |some (.normal,s2)=>some s2.st
   |_=>none
  |_=>none
 else none
theorem hOf_le{n m:Nat}(h:n<=m){c:Ctx}{hs':Hs}(hh:HLe c.hs hs'){params:Array Tmp}{assign body:Code}{sl:Nat->AV}{args:List AV}{st st':St}(e:hOf P pol n c params assign body sl args st=some st') :
 hOf P pol m {c with hs:=hs' } params assign body sl args st=some st':=by
 unfold hOf at e ⊢;simp only at e ⊢;split at e
 .rename_i hc;rw[xc2 hc];split at e
  .rename_i s1 e1;have q1:=wC h {c with u:=st.next} hs' _ _ _ hh e1;simp only at q1;rw[q1];simp only
   split at e
   .rename_i s2 e2;have q2:=wC h {c with u:=st.next} hs' _ _ _ hh e2;simp only at q2;rw[q2];exact e
   .cases e
  .cases e
 .cases e
theorem ix_rng{n:Nat}{c:Ctx}{f:Operand}{params:Array Tmp}{assign body:Code}{s:S}:ix P pol (n+1) c (.rangeFunc f params assign body) s=(match ev s.sl f with
 | .clo g caps=>
   if vO [] body then
    match rV P pol n (((c.u,s.fc,1),uW (ix P pol n) c (c.u,s.fc,1) params assign body s.sl)::c.hs) g (.yld (c.u,s.fc,1)::caps) {s.st with objs:=qM s.st.objs (c.u,s.fc,1) (some (.lp none))}with
    |some (_,st')=>match st'.objs (c.u,s.fc,1)with
     |some (.lp none)=>some (.normal,{s with st:=st',fc:=s.fc+1})
     |some (.lp (some o))=>some (o,{s with st:=st',fc:=s.fc+1})
     |_=>none
    |none=>none
   else match rV P pol n (((c.u,s.fc,0),hOf P pol n c params assign body s.sl)::c.hs) g (.yld (c.u,s.fc,0)::caps) s.st with
   |some (_,st')=>some (.normal,{s with st:=st',fc:=s.fc+1})
   |none=>none
 |_=>none):=rfl
theorem lpB_get{id:Id}{m:Mem}(h:lpB id m=true):m.get id=some (.lp none):=by
 unfold lpB at h;split at h
 .assumption
 .cases h
theorem x6f{id:Id}{m m':Mem}(h:xA id m=some m'):m.get id=some (.lp none)/\m'=m:=by
 unfold xA at h;cases hb:lpB id m with
 |false=>rw[hb]at h;cases h
 |true=>rw[hb]at h;cases h;exact⟨lpB_get hb,rfl⟩
theorem x6g{id:Id}{o:Out}{m m':Mem}(h:wH id o m=some m'):m.get id=some (.lp none)/\m'=m.set id (.lp (some o)):=by
 unfold wH at h;cases hb:lpB id m with
 |false=>rw[hb]at h;cases h
 |true=>rw[hb]at h;cases h;exact⟨lpB_get hb,rfl⟩
theorem st_new(m:Mem)(id:Id)(o:Ob):(m.new id o).st={m.st with objs:=qM m.st.objs id (some o)}:=by show({objs:=(m.new id o).get,next:=m.next}:St)=_;rw[Mem.get_new'];rfl
theorem J8(m:Mem)(id:Id)(o:Ob):(m.set id o).st={m.st with objs:=qM m.st.objs id (some o)}:=by show({objs:=(m.set id o).get,next:=m.next}:St)=_;rw[Mem.get_set'];rfl
theorem xB(hc:yU P pol call):∀(code:Code) {R:Type} {c:FCtx} {A:Nat->Hs} {X:Fs->Option R} {E:Nat->Fs->Option R} {T:Fs->Option R} {s:Fs} {r:R},Mono A->Under c.hs A ->
 fxK P pol N call code R c X E T s=some r->∃o s',u4 X E T o s'=some r/\Runs P pol A c code s.s o s'.s
 | .skip,R,c,A,X,E,T,s,r,hm,hu,h=>⟨.normal,s,h,1,rfl⟩
 | .region id ops draw,R,c,A,X,E,T,s,r,hm,hu,h=>by obtain⟨s',h1,n,h2⟩:=freg_ok hc hm hu h;refine⟨.normal,s',h1,n+1,?_⟩;have h3:=x4b (R5 (P:=P) (pol:=pol) (xc7 n)) (hm n (n+1) (by omega)) h2;show(wA P pol (rV P pol n) (c.c (A (n+1))) ops draw s.s).map (λs'=>(Out.normal,s'))=_;rw[show wA P pol (rV P pol n) (c.c (A (n+1))) ops draw s.s=some s'.s from h3];rfl
 | .seq a b,R,c,A,X,E,T,s,r,hm,hu,h=>by
   obtain⟨o,s1,h1,n1,h2⟩:=xB hc a hm hu h;cases o with
   |normal=>
    obtain⟨o2,s2,h3,n2,h4⟩:=xB hc b hm hu (show fxK P pol N call b R c X E T s1=some r from h1);refine⟨o2,s2,h3,max n1 n2+1,?_⟩;have q1:=Runs.at hm h2 (show n1<=max n1 n2+1 by omega);have q2:=Runs.at hm h4 (show n2<=max n1 n2+1 by omega)
    show(match ix P pol (max n1 n2+1) (c.c (A (max n1 n2+1))) a s.s with
     |some (.normal,s')=>ix P pol (max n1 n2+1) (c.c (A (max n1 n2+1))) b s'
     |r=>r)=_
    rw[q1];exact q2
   |exit i=>
    refine⟨.exit i,s1,h1,n1+1,?_⟩;have q1:=Runs.at hm h2 (show n1<=n1+1 by omega)
    show(match ix P pol (n1+1) (c.c (A (n1+1))) a s.s with
     |some (.normal,s')=>ix P pol (n1+1) (c.c (A (n1+1))) b s'
     |r=>r)=_
    rw[q1]
   |ret=>
    refine⟨.ret,s1,h1,n1+1,?_⟩;have q1:=Runs.at hm h2 (show n1<=n1+1 by omega)
    show(match ix P pol (n1+1) (c.c (A (n1+1))) a s.s with
     |some (.normal,s')=>ix P pol (n1+1) (c.c (A (n1+1))) b s'
     |r=>r)=_
    rw[q1]
 | .cond x a b,R,c,A,X,E,T,s,r,hm,hu,h=>by
   have h':qL (ev s.sl x) (fxK P pol N call a R c X E T s) (fxK P pol N call b R c X E T s)=some r:=h;unfold qL at h';split at h'
   .rename_i e;obtain⟨o,s1,h1,n1,h2⟩:=xB hc a hm hu h';refine⟨o,s1,h1,n1+1,?_⟩;have q1:=Runs.at hm h2 (show n1<=n1+1 by omega)
    show(match ev s.s.sl x with
     | .sc (.bool true)=>ix P pol (n1+1) (c.c (A (n1+1))) a s.s
     | .sc (.bool false)=>ix P pol (n1+1) (c.c (A (n1+1))) b s.s
     |_=>none)=_
    rw[show ev s.s.sl x=.sc (.bool true)from e];exact q1
   .rename_i e;obtain⟨o,s1,h1,n1,h2⟩:=xB hc b hm hu h';refine⟨o,s1,h1,n1+1,?_⟩;have q1:=Runs.at hm h2 (show n1<=n1+1 by omega)
    show(match ev s.s.sl x with
     | .sc (.bool true)=>ix P pol (n1+1) (c.c (A (n1+1))) a s.s
     | .sc (.bool false)=>ix P pol (n1+1) (c.c (A (n1+1))) b s.s
     |_=>none)=_
    rw[show ev s.s.sl x=.sc (.bool false)from e];exact q1
   .cases h'
 | .block id b,R,c,A,X,E,T,s,r,hm,hu,h=>by
   obtain⟨o,s1,h1,n1,h2⟩:=xB hc b hm hu h;have q1:=Runs.at hm h2 (show n1<=n1+1 by omega);have key:∀o':Out,(match (some (o,s1.s):Option (Out×S))with|some (Out.exit id',s')=>if id'=id then some (Out.normal,s')else some (Out.exit id',s')|r=>r)=some (o',s1.s)->Runs P pol A c (.block id b) s.s o' s1.s:=by
    intro o' e;refine⟨n1+1,?_⟩
    show(match ix P pol (n1+1) (c.c (A (n1+1))) b s.s with
     |some (Out.exit id',s')=>if id'=id then some (Out.normal,s')else some (Out.exit id',s')
     |r=>r)=_
    rw[q1];exact e
   cases o with
   |normal=>exact⟨.normal,s1,h1,key _ rfl⟩
   |ret=>exact⟨.ret,s1,h1,key _ rfl⟩
   |exit i=>
    have h1':(bif Nat.beq i id then X s1 else E i s1)=some r:=h1;by_cases hi:i=id
    .subst hi;rw[show Nat.beq i i=true from by simp]at h1';exact⟨.normal,s1,h1',key _ (by simp)⟩
    .rw[show Nat.beq i id=false from by rw[xcz];intro e;exact hi (xcb e)]at h1';exact⟨.exit i,s1,h1',key _ (by simp[hi])⟩
 | .loop b,R,c,A,X,E,T,s,r,hm,hu,h=>by
   have key:∀(j:Nat) (s:Fs),z5 (λrec=>fxK P pol N call b R c rec E T) j s=some r->∃o s',u4 X E T o s'=some r/\Runs P pol A c (.loop b) s.s o s'.s:=by
    intro j;induction j with
    |zero=>intro s h;simp[z5]at h
    |succ j ih=>
     intro s h;obtain⟨o,s1,h1,n1,h2⟩:=xB hc b hm hu (show fxK P pol N call b R c (z5 (λrec=>fxK P pol N call b R c rec E T) j) E T s=some r from h);cases o with
     |normal=>
      obtain⟨o2,s2,h3,n2,h4⟩:=ih s1 h1;refine⟨o2,s2,h3,max n1 n2+1,?_⟩;have q1:=Runs.at hm h2 (show n1<=max n1 n2+1 by omega);have q2:=wC (show n2<=max n1 n2 by omega) (c.c (A n2)) (A (max n1 n2+1)) _ _ _ (hm n2 (max n1 n2+1) (by omega)) h4
      show(match ix P pol (max n1 n2+1) (c.c (A (max n1 n2+1))) b s.s with
       |some (.normal,s')=>ix P pol (max n1 n2) (c.c (A (max n1 n2+1))) (.loop b) s'
       |r=>r)=_
      rw[q1];exact q2
     |exit i=>
      refine⟨.exit i,s1,h1,n1+1,?_⟩;have q1:=Runs.at hm h2 (show n1<=n1+1 by omega)
      show(match ix P pol (n1+1) (c.c (A (n1+1))) b s.s with
       |some (.normal,s')=>ix P pol n1 (c.c (A (n1+1))) (.loop b) s'
       |r=>r)=_
      rw[q1]
     |ret=>
      refine⟨.ret,s1,h1,n1+1,?_⟩;have q1:=Runs.at hm h2 (show n1<=n1+1 by omega)
      show(match ix P pol (n1+1) (c.c (A (n1+1))) b s.s with
       |some (.normal,s')=>ix P pol n1 (c.c (A (n1+1))) (.loop b) s'
       |r=>r)=_
      rw[q1]
   exact key N s h
 | .exit id,R,c,A,X,E,T,s,r,hm,hu,h=>⟨.exit id,s,h,1,rfl⟩
 | .ret,R,c,A,X,E,T,s,r,hm,hu,h=>⟨.ret,s,h,1,rfl⟩
 | .rangeFunc f params assign body,R,c,A,X,E,T,s,r,hm,hu,h=>by
   cases hg:ev s.sl f with
   |clo g caps=>
    have e:=hg;cases hlp:vO [] body with
    |true=>
     have h':(call (((c.u,s.fc,1),yS c.nt params.size (λu=>fxK P pol N call assign Mem {c with u:=u} (λs1=>(xA (c.u,s.fc,1) s1.m).bind λ_=>
      fxK P pol N call body Mem {c with u:=u} (λs2=>xA (c.u,s.fc,1) s2.m) (λi s2=>wH (c.u,s.fc,1) (.exit i) s2.m) (λs2=>wH (c.u,s.fc,1) .ret s2.m) s1) qP tK) params.toList s.sl)::c.hs)
      g (.yld (c.u,s.fc,1)::caps) (s.m.new (c.u,s.fc,1) (.lp none))).bind (λp=>sLp (c.u,s.fc,1) p.2 (X {s with m:=p.2,fc:=s.fc+1}) (T {s with m:=p.2,fc:=s.fc+1}) λi=>E i {s with m:=p.2,fc:=s.fc+1})=some r:=by
      have h2:=h
      simp only[fxK,hg,d4,hlp,cond_true]at h2
      exact h2
     rw[xdb]at h';obtain⟨⟨v,m'⟩,h1,h2⟩:=h';have hm':Mono λk=>((c.u,s.fc,1),uW (ix P pol k) (c.c (A (k+1))) (c.u,s.fc,1) params assign body s.sl)::A (k+1):=by intro i j hij;exact⟨rfl,λargs st st' e=>x4c (c:=c.c (A (i+1))) (wC hij) (hm (i+1) (j+1) (by omega)) e,hm (i+1) (j+1) (by omega)⟩
     have hu':Under (((c.u,s.fc,1),yS c.nt params.size (λu=>fxK P pol N call assign Mem {c with u:=u} (λs1=>(xA (c.u,s.fc,1) s1.m).bind λ_=>
      fxK P pol N call body Mem {c with u:=u} (λs2=>xA (c.u,s.fc,1) s2.m) (λi s2=>wH (c.u,s.fc,1) (.exit i) s2.m) (λs2=>wH (c.u,s.fc,1) .ret s2.m) s1) qP tK) params.toList s.sl)::c.hs)
      λk=>((c.u,s.fc,1),uW (ix P pol k) (c.c (A (k+1))) (c.u,s.fc,1) params assign body s.sl)::A (k+1):=by
      intro id h0 hid args m m2 e0
      simp only[xS]at hid
      by_cases hi:(c.u,s.fc,1)=id
      .rw[xc2 hi]at hid
       cases hid
       unfold yS at e0
       cases hb:(Nat.beq args.length params.size&&params.toList.all (Nat.blt · c.nt))with
       |false=>rw[hb]at e0;cases e0
       |true=>
        rw[hb,cond_true]at e0
        rw[xc6]at hb
        have hl:args.length=params.size:=xcb hb.1
        obtain⟨o1,s1,g1,n1,g2⟩:=xB hc assign (c:={c with u:=m.next}) hm hu e0
        have ho1:o1=.normal:=by cases o1<;>first|rfl|(simp[u4,qP,tK]at g1)
        subst ho1
        have g1':(xA (c.u,s.fc,1) s1.m).bind (λ_=>fxK P pol N call body Mem {c with u:=m.next} (λs2=>xA (c.u,s.fc,1) s2.m) (λi s2=>wH (c.u,s.fc,1) (.exit i) s2.m) (λs2=>wH (c.u,s.fc,1) .ret s2.m) s1)=some m2:=g1
        rw[xdb]at g1'
        obtain⟨m1,k1,k2⟩:=g1'
        obtain⟨k3,-⟩:=x6f k1
        obtain⟨o2,s2,g3,n2,g4⟩:=xB hc body (c:={c with u:=m.next}) hm hu k2
        have hall:params.all (λx=>decide (x<c.nt))=true:=by
         rw[<-Array.all_toList,xc8]
         have:=hb.2
         rw[xc8]at this
         intro x hx
         exact xdl (xdh (this x hx))
        have q1:=wC (P:=P) (pol:=pol) (show n1<=max n1 n2 by omega) _ (A (max n1 n2+1)) _ _ _ (hm n1 (max n1 n2+1) (by omega)) g2
        have q2:=wC (P:=P) (pol:=pol) (show n2<=max n1 n2 by omega) _ (A (max n1 n2+1)) _ _ _ (hm n2 (max n1 n2+1) (by omega)) g4
        have hbd:z6 params.toList 0 args s.sl=uI params.toList args s.sl:=S2 params.toList [] args s.sl (by simpa using hl)
        have q1':ix P pol (max n1 n2) {c.c (A (max n1 n2+1))with u:=m.st.next} assign {sl:=uI params.toList args s.sl,st:={m.st with next:=m.st.next+1},fc:=0}=some (.normal,s1.s):=by
         rw[<-hbd];exact q1
        have q2':ix P pol (max n1 n2) {c.c (A (max n1 n2+1))with u:=m.st.next} body s1.s=some (o2,s2.s):=q2
        have hob1:s1.s.st.objs (c.u,s.fc,1)=some (.lp none):=k3
        refine⟨max n1 n2,uW (ix P pol (max n1 n2)) (c.c (A (max n1 n2+1))) (c.u,s.fc,1) params assign body s.sl,by simp only[vN,xc2 hi],?_⟩
        unfold uW
        rw[xc2 ⟨hl,hall⟩]
        rw[q1']
        simp only[hob1]
        rw[q2']
        cases o2 with
        |normal=>
         obtain⟨g5,g6⟩:=x6f (show xA (c.u,s.fc,1) s2.m=some m2 from g3)
         have hob2:s2.s.st.objs (c.u,s.fc,1)=some (.lp none):=g5
         simp only[hob2]
         rw[g6]
         rfl
        |exit i=>
         obtain⟨g5,g6⟩:=x6g (show wH (c.u,s.fc,1) (.exit i) s2.m=some m2 from g3)
         have hob2:s2.s.st.objs (c.u,s.fc,1)=some (.lp none):=g5
         simp only[hob2]
         rw[g6,J8]
         rfl
        |ret=>
         obtain⟨g5,g6⟩:=x6g (show wH (c.u,s.fc,1) .ret s2.m=some m2 from g3)
         have hob2:s2.s.st.objs (c.u,s.fc,1)=some (.lp none):=g5
         simp only[hob2]
         rw[g6,J8]
         rfl
      .rw[xc1 hi]at hid
       obtain⟨n,g,g1,g2⟩:=Under.shift hm hu id h0 hid args m m2 e0
       exact⟨n,g,by simp only[vN];rw[xc1 hi];exact g1,g2⟩
     obtain⟨n,hn⟩:=hc _ _ _ _ _ _ _ hm' hu' h1;have hn':rV P pol n ((((c.c (A (n+1))).u,s.s.fc,1),uW (ix P pol n) (c.c (A (n+1))) ((c.c (A (n+1))).u,s.s.fc,1) params assign body s.s.sl)::(c.c (A (n+1))).hs) g (.yld ((c.c (A (n+1))).u,s.s.fc,1)::caps) {s.s.st with objs:=qM s.s.st.objs ((c.c (A (n+1))).u,s.s.fc,1) (some (.lp none))}=some (v,m'.st):=(by rw[st_new]at hn;exact hn);have fin:∀o:Out,(m'.get (c.u,s.fc,1)=some (.lp none)/\o=.normal\/m'.get (c.u,s.fc,1)=some (.lp (some o)))->Runs P pol A c (.rangeFunc f params assign body) s.s o ({s with m:=m',fc:=s.fc+1}:Fs).s:=by
      intro o ho;refine⟨n+1,?_⟩;rw[ix_rng,show ev s.s.sl f=.clo g caps from hg];simp only[hlp,xcm];rw[hn'];simp only
      rcases ho with ⟨ho,rfl⟩|ho
      .rw[show m'.st.objs ((c.c (A (n+1))).u,s.s.fc,1)=some (.lp none)from ho];rfl
      .rw[show m'.st.objs ((c.c (A (n+1))).u,s.s.fc,1)=some (.lp (some o))from ho];rfl
     simp only[sLp]at h2;split at h2
     .rename_i ho;exact⟨.normal,_,h2,fin _ (.inl ⟨ho,rfl⟩)⟩
     .rename_i ho;exact⟨.ret,_,h2,fin _ (.inr ho)⟩
     .rename_i i ho;exact⟨.exit i,_,h2,fin _ (.inr ho)⟩
     .cases h2
    |false=>
     have h':(call (((c.u,s.fc,0),yS c.nt params.size (λu=>fxK P pol N call assign Mem {c with u:=u} (fxK P pol N call body Mem {c with u:=u} (λs2=>some s2.m) qP tK) qP tK) params.toList s.sl)::c.hs)
      g (.yld (c.u,s.fc,0)::caps) s.m).bind (λp=>X {s with m:=p.2,fc:=s.fc+1})=some r:=by
      have h2:=h
      simp only[fxK,hg,d4,hlp,cond_false]at h2
      exact h2
     rw[xdb]at h';obtain⟨⟨v,m'⟩,h1,h2⟩:=h';have hm':Mono λk=>((c.u,s.fc,0),hOf P pol k (c.c (A (k+1))) params assign body s.sl)::A (k+1):=by intro i j hij;exact⟨rfl,λargs st st' e=>hOf_le hij (hm (i+1) (j+1) (by omega)) e,hm (i+1) (j+1) (by omega)⟩
     have hu':Under (((c.u,s.fc,0),yS c.nt params.size (λu=>fxK P pol N call assign Mem {c with u:=u} (fxK P pol N call body Mem {c with u:=u} (λs2=>some s2.m) qP tK) qP tK) params.toList s.sl)::c.hs)
      λk=>((c.u,s.fc,0),hOf P pol k (c.c (A (k+1))) params assign body s.sl)::A (k+1):=by
      intro id h0 hid args m m2 e0;simp only[xS]at hid;by_cases hi:(c.u,s.fc,0)=id
      .rw[xc2 hi]at hid;cases hid;unfold yS at e0;cases hb:(Nat.beq args.length params.size&&params.toList.all (Nat.blt · c.nt))with
       |false=>rw[hb]at e0;cases e0
       |true=>
        rw[hb,cond_true]at e0;rw[xc6]at hb;have hl:args.length=params.size:=xcb hb.1;obtain⟨o1,s1,g1,n1,g2⟩:=xB hc assign (c:={c with u:=m.next}) hm hu e0;have ho1:o1=.normal:=(by cases o1<;>first|rfl|(simp[u4,qP,tK]at g1));subst ho1;obtain⟨o2,s2,g3,n2,g4⟩:=xB hc body (c:={c with u:=m.next}) hm hu (show fxK P pol N call body Mem {c with u:=m.next} (λs2=>some s2.m) qP tK s1=some m2 from g1);have ho2:o2=.normal:=(by cases o2<;>first|rfl|(simp[u4,qP,tK]at g3));subst ho2;have g5:s2.m=m2:=(by simpa[u4]using g3);subst g5;refine⟨max n1 n2,hOf P pol (max n1 n2) (c.c (A (max n1 n2+1))) params assign body s.sl,by simp only[vN,xc2 hi],?_⟩;unfold hOf;have hall:params.all (λx=>decide (x<c.nt))=true:=(by rw[<-Array.all_toList,xc8];have:=hb.2;rw[xc8]at this;intro x hx;exact xdl (xdh (this x hx)));rw[xc2 ⟨hl,hall⟩];have q1:=wC (P:=P) (pol:=pol) (show n1<=max n1 n2 by omega) _ (A (max n1 n2+1)) _ _ _ (hm n1 (max n1 n2+1) (by omega)) g2;have q2:=wC (P:=P) (pol:=pol) (show n2<=max n1 n2 by omega) _ (A (max n1 n2+1)) _ _ _ (hm n2 (max n1 n2+1) (by omega)) g4;have hbd:z6 params.toList 0 args s.sl=uI params.toList args s.sl:=S2 params.toList [] args s.sl (by simpa using hl);have q1':ix P pol (max n1 n2) {c.c (A (max n1 n2+1))with u:=m.st.next} assign {sl:=uI params.toList args s.sl,st:={m.st with next:=m.st.next+1},fc:=0}=some (.normal,s1.s):=(by rw[<-hbd];exact q1);have q2':ix P pol (max n1 n2) {c.c (A (max n1 n2+1))with u:=m.st.next} body s1.s=some (.normal,s2.s):=q2;simp only
        rw[q1'];simp only
        rw[q2'];rfl
      .rw[xc1 hi]at hid;obtain⟨n,g,g1,g2⟩:=Under.shift hm hu id h0 hid args m m2 e0;exact⟨n,g,by simp only[vN];rw[xc1 hi];exact g1,g2⟩
     obtain⟨n,hn⟩:=hc _ _ _ _ _ _ _ hm' hu' h1;refine⟨.normal,{s with m:=m',fc:=s.fc+1},h2,n+1,?_⟩;rw[ix_rng,show ev s.s.sl f=.clo g caps from e];simp only[hlp,xcv,xck];have hn':rV P pol n ((((c.c (A (n+1))).u,s.s.fc,0),hOf P pol n (c.c (A (n+1))) params assign body s.s.sl)::(c.c (A (n+1))).hs) g (.yld ((c.c (A (n+1))).u,s.s.fc,0)::caps) s.s.st=some (v,m'.st):=hn;rw[hn'];rfl
   |_=>simp[fxK,d4,hg]at h
 | .scope _,R,c,A,X,E,T,s,r,hm,hu,h=>by simp[fxK,tK]at h
 | .goto _,R,c,A,X,E,T,s,r,hm,hu,h=>by simp[fxK,tK]at h
 | .label _,R,c,A,X,E,T,s,r,hm,hu,h=>by simp[fxK,tK]at h
 | .refuse _,R,c,A,X,E,T,s,r,hm,hu,h=>by simp[fxK,tK]at h
theorem S3{sl:Nat->AV}{m:Mem}{fc:Nat}:∀{rs:List ResultVar} {k:List AV->Option R} {r:R},D7 P sl m rs k=some r->∃l,wB P rs {sl:=sl,st:=m.st,fc:=fc}=some l/\k l=some r
 |[],k,r,h=>⟨[],rfl,h⟩
 | .tmp t::rs,k,r,h=>by obtain⟨l,h1,h2⟩:=S3 (fc:=fc) (k:=λl=>k (sl t::l)) h;exact⟨sl t::l,by simp only[wB,h1],h2⟩
 | .cell a t::rs,k,r,h=>by
   simp only[D7]at h;split at h
   .rename_i g z e1;rw[xdb]at h;obtain⟨v,h1,h2⟩:=h;obtain⟨l,h3,h4⟩:=S3 (fc:=fc) (k:=λl=>k (v::l)) h2;refine⟨v::l,?_,h4⟩;unfold sG sLd at h1;split at h1
    .rename_i id ver off e2;simp only at h1;split at h1
     .rename_i cs v' fz e3;split at h1
      .rename_i e4;have e3':m.st.objs id=some (.row cs v' fz):=e3;simp only[wB,e1,e2,e3',xc2 e4,h1,h3]
      .cases h1
     .cases h1
    .cases h1
   .cases h
theorem fres_ok{rs:List ResultVar}{s:Fs}{v:AV}{m:Mem}(h:sC P rs s=some (v,m)):m=s.m/\∃l,wB P rs s.s=some l/\((∃x,l=[x]/\v=x)\/((∀x,l≠[x])/\v=.tup l)):=by
 unfold sC at h;obtain⟨l,h1,h2⟩:=S3 (fc:=s.fc) h;split at h2
 .rename_i x;cases h2;exact⟨rfl,_,h1,Or.inl ⟨_,rfl,rfl⟩⟩
 .rename_i hn;cases h2;exact⟨rfl,_,h1,Or.inr ⟨hn,rfl⟩⟩
theorem fbody_ok(hc:yU P pol call){hs:FHs}{A:Nat->Hs}{f:FuncId}{args:List AV}{m m':Mem}{r:AV}(hm:Mono A)(hu:Under hs A)(h:yT P pol N call hs f args m=some (r,m')):∃n,rV P pol n (A n) f args m.st=some (r,m'.st):=by
 unfold yT at h;cases hp:Nat.beq (pol f tD) 0 with
 |false=>
  rw[hp,cond_false]at h;refine⟨0,?_⟩;unfold rV wV;rw[xc2 (by intro e;rw[e]at hp;cases hp)];unfold tellM at h;unfold tellB;cases h3:Nat.beq (pol f tD) 3 with
  |false=>
   rw[h3,cond_false]at h;rw[cond_false];cases h6:Nat.ble 16 (pol f tD)with
   |true=>
    rw[h6,cond_true]at h;rw[cond_true];cases h7:Nat.beq (pol f tD % 2) 0 with
    |true=>rw[h7,cond_true]at h;simp only[xc5,xc3]at h;obtain⟨r0,e3,rfl,rfl⟩:=h;have e3':tell6 (pol f tD / 2000) (pol f tD / 2 % 1000) m.st.objs args=some r0:=e3;rw[cond_true,e3'];rfl
    |false=>rw[h7,cond_false]at h;simp only[xc5,xc3]at h;obtain⟨p,e3,rfl,rfl⟩:=h;have e3':tell7 (pol f tD / 2000) (pol f tD / 2 % 1000) m.st.objs args=some p:=e3;rw[cond_false,e3',J8];rfl
   |false=>
   rw[h6,cond_false]at h;rw[cond_false];cases h4:Nat.ble 4 (pol f tD)with
   |false=>rw[h4,cond_false]at h;simp only[xc5,xc3]at h;obtain⟨r0,e3,rfl,rfl⟩:=h;rw[cond_false,e3];rfl
   |true=>rw[h4,cond_true]at h;simp only[xc5,xc3]at h;obtain⟨r0,e3,rfl,rfl⟩:=h;have e3':tellR (pol f tD) args m.st.objs=some r0:=e3;rw[cond_true,e3'];rfl
  |true=>rw[h3,cond_true]at h;simp only[xc5,xc3]at h;obtain⟨p,e3,rfl,rfl⟩:=h;have e3':tell3 args m.st.objs=some p:=e3;rw[cond_true,e3',J8];rfl
 |true=>
 rw[hp,cond_true]at h;have hp0:¬pol f tD≠0:=(by intro e;exact e (xcb hp));split at h
 .rename_i fn e1;split at h
  .rename_i body e2;split at h
   .rename_i e3;obtain⟨o,s',h1,n,h2⟩:=xB hc body (c:={f:=f,u:=m.next,nt:=fn.ntmps,hs:=hs}) hm hu h;have h1':o=.normal\/o=.ret:=by
     cases o with
     |exit i=>simp[u4,qP]at h1
     |normal=>exact Or.inl rfl
     |ret=>exact Or.inr rfl
    have h3:sC P fn.results.toList s'=some (r,m'):=(by rcases h1' with rfl|rfl<;>exact h1);obtain⟨rfl,l,h4,h5⟩:=fres_ok h3;refine⟨n,?_⟩;unfold rV wV;rw[xc1 hp0,e1];simp only
    rw[e2];simp only
    rw[xc2 e3];have h2':ix P pol n {f:=f,u:=m.st.next,nt:=fn.ntmps,hs:=A n} body {sl:=vF args,st:={m.st with next:=m.st.next+1},fc:=0}=some (o,s'.s):=h2;rw[h2'];rcases h1' with rfl|rfl
    .simp only
     rw[h4];rcases h5 with ⟨x,rfl,rfl⟩|⟨hn,rfl⟩
     .rfl
     .split
      .rename_i v' e;cases e;exact absurd rfl (hn _)
      .rename_i e;cases e;rfl
      .rename_i e;cases e
    .simp only
     rw[h4];rcases h5 with ⟨x,rfl,rfl⟩|⟨hn,rfl⟩
     .rfl
     .split
      .rename_i v' e;cases e;exact absurd rfl (hn _)
      .rename_i e;cases e;rfl
      .rename_i e;cases e
   .cases h
  .rename_i e2;simp only[xc5,xc3]at h;obtain⟨r0,e3,rfl,rfl⟩:=h;refine⟨0,?_⟩;unfold rV wV;rw[xc1 hp0,e1];simp only
   rw[e2];simp only
   rw[e3];rfl
 .cases h
end Go.Ix
