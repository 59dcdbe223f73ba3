import Derived.Test.YtacloojepepcfaaGreatDoorFxOps
set_option linter.unusedSimpArgs false
set_option linter.unusedVariables false
namespace Go.Ix
variable{P:Program}{pol:Pol}{call:xou}{R:Type}
theorem shut1_get(h:Hp)(i j:Id):hget (shut1 h i) j=shut [i] (hget h) j:=by
 unfold shut1 shut
 by_cases hj:j=i
 .subst hj
  rw[x17u (x18w.mpr rfl)]
  cases e:hget h j with
  |none=>simp[e]
  |some o=>
   cases o with
   |map es=>simp[e]
   |lp d=>simp[e]
   |row cs v f=>
    cases f with
    |true=>simp[e]
    |false=>simp[xw8]
 .rw[x17t (by simpa using hj)]
  split
  .rw[xw8,x17t hj]
  .rfl
theorem xwa:∀(ids:List Id) (h:Hp),hget (xrd ids h)=shut ids (hget h)
 |[],h=>by funext i;simp[xrd,shut]
 |i::r,h=>by
  funext j
  rw[xrd,xwa r]
  have h1:=shut1_get h i j
  unfold shut at h1 ⊢
  rw[h1]
  by_cases hj:j=i
  .subst hj
   simp only[x18w,x18m,x186,true_or]
   cases e:hget h j with
   |none=>simp
   |some o=>
    cases o with
    |map es=>simp
    |lp d=>simp
    |row cs v f=>simp
  .simp[hj]
theorem xzn(h':Hp):∀(ids:List Id) (h:Hp),(∀i∈ids,∃o,hget h' i=some o)->∀j,hget (keepH h' ids h) j=if j∈ids then hget h' j else hget h j
 |[],h,_,j=>by simp[keepH]
 |i::r,h,hi,j=>by
  obtain⟨o,ho⟩:=hi i (x18a ..)
  simp only[keepH,ho]
  rw[xzn h' r _ λx hx=>hi x (x183 _ hx)]
  simp only[x186,xw8]
  by_cases hj:j∈r
  .simp[hj]
  .by_cases hji:j=i
   .subst hji;simp[hj,ho]
   .simp[hj,hji]
theorem row1_nil{h:Hp}{u:Nat}(hn:∀e∈h,e.1≠u):row1 h u=[]:=by
 induction h with
 |nil=>rfl
 |cons e r ih=>
  obtain⟨v,l⟩:=e
  simp only[row1]
  have:Nat.beq v u=false:=by
   rw[x18l];intro x;exact hn _ (x18a ..) (x189 x)
  rw[this]
  exact ih λe he=>hn e (x183 _ he)
theorem xwb{p:Nat×List (Nat×Nat×Ob)->Bool}{u:Nat}{t:Hp}(ht:∀e∈t,e.1≠u):∀{h:Hp},(∀l,p (u,l)=true)->row1 (h.filter p++t) u=row1 h u
 |[],_=>row1_nil ht
 |(v,l)::r,hp=>by
  simp only[List.filter_cons]
  by_cases hv:v=u
  .subst hv
   rw[x17u (hp l)]
   simp[row1]
  .have hb:Nat.beq v u=false:=by
    rw[x18l];intro x;exact hv (x189 x)
   split
   .simp only[x1a6,row1,hb,cond_false];exact xwb ht hp
   .simp only[row1,hb,cond_false];exact xwb ht hp
theorem xzo{u:Nat}{t:Hp}:∀{h:Hp},(∀e∈h,e.1≠u)->row1 (h++t) u=row1 t u
 |[],_=>rfl
 |(v,l)::r,hn=>by
  have hb:Nat.beq v u=false:=by
   rw[x18l];intro x;exact hn _ (x18a ..) (x189 x)
  simp only[x1a6,row1,hb,cond_false]
  exact xzo λe he=>hn e (x183 _ he)
theorem xzp(h' h:Hp)(n:Nat):hget ((h'.filter λe=>Nat.ble n e.1)++(h.filter λe=>Nat.blt e.1 n))=λi=>if n<=i.1 then hget h' i else hget h i:=by
 funext i
 unfold hget
 by_cases hi:n<=i.1
 .rw[x17u hi,xwb]
  .intro e he
   rw[x18x]at he
   have:=x19o he.2
   omega
  .intro l;exact Nat.ble_eq_true_of_le hi
 .rw[x17t hi,xzo]
  .have:row1 (List.filter (λe=>e.fst.blt n) h++[]) i.1=row1 h i.1:=xwb (λe he=>by cases he) (λl=>Nat.ble_eq_true_of_le (by omega))
   rw[x1a7]at this
   rw[this]
  .intro e he
   rw[x18x]at he
   have:=x19o he.2
   omega
def Mono(A:Nat->Hs):Prop:=∀n m,n<=m->HLe (A n) (A m)
def Under(hs:FHs)(A:Nat->Hs):Prop:=∀id h,xrv hs id=some h->∀args m m',h args m=some m'->∃n g,hsAt (A n) id=some g/\g args m.st=some m'.st
def Nil:Nat->Hs:=λ_=>[]
theorem Mono.nil:Mono Nil:=λ_ _ _=>trivial
theorem Under.nil:Under [] Nil:=λ_ _ h=>by simp[xrv]at h
theorem Under.shift{hs:FHs}{A:Nat->Hs}(hm:Mono A)(h:Under hs A):Under hs λn=>A (n+1):=by
 intro id g hg args m m' e
 obtain⟨n,g',h1,h2⟩:=h id g hg args m m' e
 obtain⟨g2,h3,h4⟩:=xxf (hm n (n+1) (by omega)) h1
 exact⟨n,g2,h3,h4 _ _ _ h2⟩
def xtb(P:Program)(pol:Pol)(call:xou):Prop:=∀hs A f args m r m',Mono A->Under hs A->call hs f args m=some (r,m')->∃n,xpx P pol n (A n) f args m.st=some (r,m'.st)
theorem callLe{n m:Nat}(h:n<=m):xtt (xpx P pol n) (xpx P pol m):=body_le (xru h)
theorem xzq(hc:xtb P pol call){hs:FHs}{A:Nat->Hs}(hm:Mono A)(hu:Under hs A){mode:Nat}{fv:AV}{args:List AV}{m m':Mem}{r:AV}(h:xql call hs mode fv args m=some (r,m')):∃n,xpr (xpx P pol n) (A n) mode fv args m.st=some (r,m'.st):=by
 cases fv with
 |clo f caps=>
  simp only[xql]at h
  split at h
  .unfold xox at h
   split at h
   .rename_i l' e1
    split at h
    .rename_i r0 m0 e2
     rw[x17x]at h
     obtain⟨r1,h1,h2⟩:=h
     cases h2
     obtain⟨n,hn⟩:=hc _ _ _ _ _ _ _ Mono.nil Under.nil e2
     refine⟨n,?_⟩
     have e1':(args++caps).mapM (frz m.st.objs deep)=some l':=e1
     have hn':xpx P pol n [] f l' xrm=some (r0,m0.st):=hn
     have h1':frz m0.st.objs deep r0=some r:=h1
     simp only[xpr,e1',hn',h1',Option.map_some]
     rw[show(Mem.mk (xrd ((args++caps).flatMap (reach m.get deep)) m.hp) m.next).st={m.st with objs:=shut ((args++caps).flatMap (reach m.st.objs deep)) m.st.objs}from by
      simp only[Mem.st,Mem.get]
      congr 1
      exact xwa _ _]
    .cases h
   .cases h
  .unfold xw4 at h
   split at h
   .rename_i l' e1
    split at h
    .rename_i r0 m0 e2
     split at h
     .rename_i e3
      cases h
      obtain⟨n,hn⟩:=hc _ _ _ _ _ _ _ Mono.nil Under.nil e2
      refine⟨n,?_⟩
      have e1':(args++caps).mapM (frz m.st.objs deep)=some l':=e1
      have hn':xpx P pol n [] f l' xrm=some (r,m0.st):=hn
      simp only[xpr,e1',hn',x17u e3]
     .cases h
    .cases h
   .cases h
  .unfold xtu at h
   split at h
   .rename_i l' e1
    split at h
    .rename_i r0 m0 e2
     split at h
     .rename_i e3
      cases h
      obtain⟨n,hn⟩:=hc _ _ _ _ _ _ _ Mono.nil Under.nil e2
      refine⟨n,?_⟩
      have e1':(args++caps).mapM (frz m.st.objs deep)=some l':=e1
      have hn':xpx P pol n [] f l' {objs:=λ_=>none,next:=m.next}=some (r,m0.st):=hn
      simp only[xpr]
      rw[e1']
      simp only
      rw[show({objs:=λ_=>none,next:=m.st.next}:St)={objs:=λ_=>none,next:=m.next}from rfl,hn']
      simp only
      split
      case isFalse hno=>exact absurd e3 hno
      have hk:∀i∈reach m0.get deep r,∃o,hget m0.hp i=some o:=by
       intro j hj
       rw[x17y]at e3
       have:=x181.mp e3.2 j hj
       rw[x17y]at this
       revert this
       show _/\(match hget m0.hp j with|some (.row cs _ false)=>cs.all isSc|_=>false)=true->_
       rintro⟨-,h4⟩
       cases e:hget m0.hp j with
       |none=>rw[e]at h4;cases h4
       |some o=>exact⟨o,rfl⟩
      congr 2
      simp only[Mem.st,Mem.get]
      congr 1
      funext i
      exact(xzn _ _ _ hk i).symm
     .cases h
    .cases h
   .cases h
  .unfold xr1 at h
   split at h
   .rename_i e1
    split at h
    .rename_i r0 m0 e2
     cases h
     obtain⟨n,hn⟩:=hc _ _ _ _ _ _ _ Mono.nil Under.nil e2
     refine⟨n,?_⟩
     have hn':xpx P pol n [] f (args++caps) {objs:=λ_=>none,next:=m.next}=some (r,m0.st):=hn
     simp only[xpr,x17u e1]
     rw[show({objs:=λ_=>none,next:=m.st.next}:St)={objs:=λ_=>none,next:=m.next}from rfl,hn']
     simp only[Mem.st]
     congr 2
     exact congrArg (St.mk · _) (xzp m0.hp m.hp m.next).symm
    .cases h
   .cases h
  .rename_i h0 h3 h4 h1
   obtain⟨n,hn⟩:=hc _ _ _ _ _ _ _ hm hu h
   refine⟨n,?_⟩
   have key:∀mode:Nat,(mode=0->False)->(mode=3->False)->(mode=4->False)->(mode=1->False)->xpr (xpx P pol n) (A n) mode (.clo f caps) args m.st=xpx P pol n (A n) f (args++caps) m.st:=by
    intro mode a b c d
    unfold xpr
    split<;>first|rfl|(exact(a rfl).elim)|(exact(b rfl).elim)|(exact(c rfl).elim)|(exact(d rfl).elim)|skip
    split<;>first|rfl|(exact(a rfl).elim)|(exact(b rfl).elim)|(exact(c rfl).elim)|(exact(d rfl).elim)|simp_all
    all_goals simp_all
   rw[key mode h0 h3 h4 h1]
   exact hn
 |yld id=>
  simp only[xql]at h
  split at h
  .rename_i g e
   rw[x17x]at h
   obtain⟨m1,h1,h2⟩:=h
   cases h2
   obtain⟨n,g',h3,h4⟩:=hu _ _ e _ _ _ h1
   exact⟨n,by simp only[xpr,h3,h4,Option.map_some];rfl⟩
  .cases h
 |_=>simp[xql]at h
def FCtx.c(c:FCtx)(hs:Hs):Ctx:={f:=c.f,u:=c.u,nt:=c.nt,hs:=hs}
theorem xxi{ops:Array Oper}{o:Oper}{sl:Nat->AV}:xrb ops o sl=xw5 ops o.guard sl:=by
 unfold xrb xw5
 cases o.guard with
 |none=>rfl
 |some g=>
  obtain⟨j,w⟩:=g
  simp only
  cases(ops[j]?).bind (·.dst)with
  |none=>rfl
  |some t=>simp only[sW];rfl
theorem xxj{c:FCtx}{hs:Hs}{dst:Option Tmp}{v:AV}{s:Fs}{k:Fs->Option R}{r:R}(h:fput c.nt dst v s k=some r):∃s',put (c.c hs) dst v s.s=some s'.s/\k s'=some r/\s'.fc=s.fc/\s'.m=s.m:=by
 unfold fput at h
 split at h
 .rename_i d
  cases hd:Nat.blt d c.nt with
  |false=>rw[hd]at h;cases h
  |true=>
   rw[hd]at h
   exact⟨_,by simp only[put];rw[x17u (show d<(c.c hs).nt from x19o hd)];rfl,h,rfl,rfl⟩
 .exact⟨s,rfl,h,rfl,rfl⟩
theorem fop_ok(hc:xtb P pol call){c:FCtx}{A:Nat->Hs}(hm:Mono A)(hu:Under c.hs A){ops:Array Oper}{i:Nat}{o:Oper}(ho:ops[i]?=some o){s:Fs}{k:AV->Mem->Option R}{r:R}(h:fxOp P pol call c (c.u,s.fc+i,o.dst.getD 0) o s.sl s.m k=some r)(hw:xrb ops o s.sl=true) :
 ∃v m',k v m'=some r/\∃n,∀s1,put (c.c (A n)) o.dst v {s with m:=m' }.s=some s1->xq9 P pol (xpx P pol n) (c.c (A n)) ops i s.s=some s1:=by
 by_cases hn:xps o=true
 .obtain⟨dst,op,type,pos,after,guard⟩:=o
  cases op with
  |call cl=>
   obtain⟨callee,args,argTypes⟩:=cl
   cases callee with
   |value fv=>
    simp only[fxOp]at h
    rw[x197]at h
    obtain⟨⟨v,m'⟩,h1,h2⟩:=h
    obtain⟨n,hn⟩:=xzq hc hm hu h1
    refine⟨v,m',h2,n,λs1 hp=>?_⟩
    unfold xq9
    rw[ho]
    simp only
    have hw':xrb ops {dst:=dst,op:=Op.call {callee:=Callee.value fv,args:=args,argTypes:=argTypes},type:=type,pos:=pos,after:=after,guard:=guard} s.s.sl=true:=hw
    rw[x17u hw']
    have hn':xpr (xpx P pol n) (c.c (A n)).hs (nm (pol (c.c (A n)).f (dst.getD 0))) (ev s.s.sl fv) (args.toList.map (ev s.s.sl)) s.s.st=some (v,m'.st):=hn
    rw[hn']
    exact hp
   |_=>simp[xps]at hn
  |_=>simp[xps]at hn
 .have hn':xps o=false:=by simpa using hn
  by_cases hi:∃rv name args at',o.op=.call ⟨.invoke rv name,args,at'⟩
  .obtain⟨rv,name,args,at',hop⟩:=hi
   obtain⟨dst,op,type,pos,after,guard⟩:=o
   simp only at hop
   subst hop
   simp only[fxOp,fxMeth]at h
   rw[x197]at h
   obtain⟨⟨v,m'⟩,h1,h2⟩:=h
   rw[x197]at h1
   obtain⟨p,hp,h1⟩:=h1
   obtain⟨n,hn⟩:=xzq hc hm hu h1
   refine⟨v,m',h2,n,λs1 hp1=>?_⟩
   unfold xq9
   rw[ho]
   simp only
   have hw':xrb ops {dst:=dst,op:=Op.call {callee:=Callee.invoke rv name,args:=args,argTypes:=at' },type:=type,pos:=pos,after:=after,guard:=guard} s.s.sl=true:=hw
   rw[x17u hw']
   have hn':xpr (xpx P pol n) (c.c (A n)).hs (nm (pol (c.c (A n)).f (dst.getD 0))) (.clo p.1 []) (p.2::args.toList.map (ev s.s.sl)) s.s.st=some (v,m'.st):=hn
   have hp':xuh P (ev s.s.sl rv) name=some p:=hp
   simp only[hp',hn']
   exact hp1
  obtain⟨v,m',h1,h2,h3⟩:=fxOp_ok hn' (λrv name args at' e=>hi ⟨rv,name,args,at',e⟩) h
  refine⟨v,m',h3,0,λs1 hp=>?_⟩
  unfold xq9
  rw[ho]
  simp only
  have hw':xrb ops o s.s.sl=true:=hw
  rw[x17u hw']
  have h1':ixOp P ((c.c (A 0)).u,s.s.fc+i,o.dst.getD 0) o s.s.sl s.s.st.objs=some (v,m'.get):=h1
  have hp':put (c.c (A 0)) o.dst v {s.s with st:={s.s.st with objs:=m'.get}}=some s1:=by
   have:({s with m:=m' }:Fs).s={s.s with st:={s.s.st with objs:=m'.get}}:=by
    simp only[Fs.s,Mem.st,h2]
   rw[<-this];exact hp
  split
  .rename_i fv args at' e
   have:xps o=true:=by simp only[xps,e]
   rw[this]at hn';cases hn'
  .rename_i rv name args at' e
   exact absurd ⟨rv,name,args,at',e⟩ hi
  .rw[h1']
   exact hp'
theorem fstep_ok(hc:xtb P pol call){c:FCtx}{A:Nat->Hs}(hm:Mono A)(hu:Under c.hs A){ops:Array Oper}{i:Nat}{s:Fs}{k:Fs->Option R}{r:R}(h:fxStep P pol call c ops i s k=some r):∃s',k s'=some r/\s'.fc=s.fc/\∃n,xq9 P pol (xpx P pol n) (c.c (A n)) ops i s.s=some s'.s:=by
 unfold fxStep at h
 split at h
 .rename_i e
  exact⟨s,h,rfl,0,by unfold xq9;rw[e]⟩
 .rename_i o e
  split at h
  .rename_i hg
   obtain⟨v,m',h1,n,h2⟩:=fop_ok hc hm hu e h (by rw[xxi,hg];rfl)
   obtain⟨s',h3,h4,h5,h6⟩:=xxj (hs:=A n) h1
   exact⟨s',h4,h5,n,h2 _ h3⟩
  .rename_i g hg
   rw[x197]at h
   obtain⟨⟨v,m'⟩,h1,h2⟩:=h
   cases hw:xw5 ops (some g) s.sl with
   |true=>
    rw[hw,cond_true]at h1
    obtain⟨v1,m1,h3,n,h4⟩:=fop_ok hc hm hu e h1 (by rw[xxi,hg];exact hw)
    cases h3
    obtain⟨s',h5,h6,h7,h8⟩:=xxj (hs:=A n) h2
    exact⟨s',h6,h7,n,h4 _ h5⟩
   |false=>
    rw[hw,cond_false]at h1
    cases h1
    obtain⟨s',h5,h6,h7,h8⟩:=xxj (hs:=A 0) h2
    refine⟨s',h6,h7,0,?_⟩
    unfold xq9
    rw[e]
    simp only
    rw[x17t (by rw[show s.s.sl=s.sl from rfl,xxi,hg,hw];simp)]
    exact h5
theorem frun_ok(hc:xtb P pol call){c:FCtx}{A:Nat->Hs}(hm:Mono A)(hu:Under c.hs A){ops:Array Oper}:∀{L:List Nat} {s:Fs} {k:Fs->Option R} {r:R},
 fxRun P pol call c ops L s k=some r->∃s',k s'=some r/\s'.fc=s.fc/\∃n,xq3 P pol (xpx P pol n) (c.c (A n)) ops L s.s=some s'.s
 |[],s,k,r,h=>⟨s,h,rfl,0,rfl⟩
 |i::L,s,k,r,h=>by
  obtain⟨s1,h1,h2,n1,h3⟩:=fstep_ok hc hm hu h
  obtain⟨s2,h4,h5,n2,h6⟩:=frun_ok hc hm hu h1
  refine⟨s2,h4,h5.trans h2,max n1 n2,?_⟩
  have q1:=step_le (callLe (P:=P) (pol:=pol) (Nat.le_max_left n1 n2)) (hm n1 (max n1 n2) (Nat.le_max_left ..)) h3
  have q2:=run_le (callLe (P:=P) (pol:=pol) (Nat.le_max_right n1 n2)) (hm n2 (max n1 n2) (Nat.le_max_right ..)) h6
  simp only[xq3]
  have q1':xq9 P pol (xpx P pol (max n1 n2)) (c.c (A (max n1 n2))) ops i s.s=some s1.s:=q1
  rw[q1']
  exact q2
theorem xxk{id0:Id}{o:Oper}{sl:Nat->AV}:tch id0 o sl=xpe id0 o sl:=by
 obtain⟨dst,op,type,pos,after,guard⟩:=o
 unfold tch
 cases op with
 |load t a=>rfl
 |store t a x=>rfl
 |slice t x lo hi mx=>rfl
 |lookup t x ix ok=>rfl
 |call cl=>
  obtain⟨callee,args,argTypes⟩:=cl
  simp only
  split
  .rename_i s x e2
   simp only[xpe,e2];rfl
  .rename_i s x e2
   simp only[xpe,e2];rfl
  .rfl
 |_=>rfl
theorem xxl{mode:Nat}{o:Oper}{sl:Nat->AV}:mkO mode o sl=meek mode o sl:=by
 obtain⟨dst,op,type,pos,after,guard⟩:=o
 cases op with
 |call cl=>
  obtain⟨callee,args,argTypes⟩:=cl
  cases callee with
  |value fv=>rfl
  |_=>rfl
 |_=>rfl
theorem meek_le{mode:Nat}{o:Oper}{sl:Nat->AV}:meek mode o sl<=2:=by
 rw[<-xxl]
 unfold mkO mkD mkM
 split
 .split
  .split
   .split
    .omega
    .split<;>omega
   .omega
  .omega
 .omega
theorem cAp_ok{mode:Nat}{lim:Option Nat}{id0:Id}{x y:Oper}{sl:Nat->AV}(hy:xps y=false)(h:cAp lim (tch id0 y sl) (mkO mode x sl)=true):xs0 mode lim id0 x y sl=true:=by
 unfold xs0
 rw[xxk,xxl]at h
 rw[hy]
 simp only[x18b,x19j]
 unfold cAp at h
 split at h
 .rename_i r ws e
  rw[e]
  simp only
  rw[x17y]at h ⊢
  refine⟨?_,?_⟩
  .have h1:=h.1
   cases lim with
   |none=>rfl
   |some n=>
    simp only at h1 ⊢
    rw[x181]at h1 ⊢
    intro i hi
    exact x190 (x19o (h1 i hi))
  .have h2:=h.2
   rw[x18t,x17y]at h2 ⊢
   rcases h2 with h2|⟨h2,h3⟩
   .exact Or.inl (by rw[x189 h2];rfl)
   .exact Or.inr ⟨by rw[x189 h2];rfl,h3⟩
 .cases h
theorem x12r{c:FCtx}{hs:Hs}{fc next0:Nat}{ops:Array Oper}{i j:Nat}{sl:Nat->AV}(h:xw6 pol c.f c.u fc next0 ops i j sl=true):pairOK pol (c.c hs) fc next0 ops i j sl=true:=by
 unfold xw6 at h
 unfold pairOK
 split at h
 .rename_i x y e1 e2
  rw[e1,e2]
  simp only
  rw[x17y]at h ⊢
  refine⟨h.1,?_⟩
  rw[x18t]
  right
  have h2:=h.2
  split at h2
  .rename_i hx
   rw[x17u hx]
   rw[x17y]at h2
   exact cAp_ok (by simpa using h2.1) h2.2
  .rename_i hx
   rw[x17t hx]
   split at h2
   .rename_i hy
    rw[x17u hy]
    exact cAp_ok (by simpa using hx) h2
   .rename_i hy
    rw[x17t hy]
    rw[xxk,xxk]at h2
    exact h2
 .cases h
theorem softP_ok{c:FCtx}{hs:Hs}{fc next0:Nat}{ops:Array Oper}{i j:Nat}{sl:Nat->AV}(h:xui pol c.f ops i j=true):pairOK pol (c.c hs) fc next0 ops i j sl=true:=by
 unfold xui at h
 unfold pairOK
 split at h
 .rename_i x y e1 e2
  rw[e1,e2]
  simp only
  rw[x17y]at h ⊢
  refine⟨h.1,?_⟩
  rw[x18t]
  exact Or.inl h.2
 .cases h
theorem x12s{op:Op}(h:xqn op=true):xsv op=true:=by
 cases op with
 |call c=>
  obtain⟨callee,args,argTypes⟩:=c
  cases callee with
  |builtin b=>cases b<;>simp[xqn]at h<;>rfl
  |_=>simp[xqn]at h
 |_=>first|(simp[xqn]at h;done)|rfl
theorem xzr{f:Nat}{ops:Array Oper}{i:Nat}{x:Oper}{y:Op}(hx:ops[i]?=some x)(h:softA pol f ops i=true)(hy:xqn y=true):xsf (pol f (x.dst.getD 0)) x y=true:=by
 unfold softA at h
 rw[hx]at h
 simp only at h
 unfold xsf
 rw[x17y]at h ⊢
 refine⟨h.1,?_⟩
 rw[x18t]
 right
 rw[x17y]
 exact⟨x12s hy,h.2⟩
theorem xvc{id0:Id}{o:Oper}{sl:Nat->AV}(h:xqn o.op=true):xpe id0 o sl=(some [],some []):=by
 obtain⟨dst,op,type,pos,after,guard⟩:=o
 cases op with
 |call cl=>
  obtain⟨callee,args,argTypes⟩:=cl
  cases callee with
  |builtin b=>cases b<;>first|rfl|(simp[xqn]at h)
  |_=>simp[xqn]at h
 |_=>first|rfl|(simp[xqn]at h)
theorem xzs{id0:Id}{o:Oper}{sl:Nat->AV}(h:wNone o.op=true):∃r,xpe id0 o sl=(some r,some []):=by
 unfold wNone at h
 rw[x18t]at h
 rcases h with h|h
 .exact⟨[],xvc h⟩
 .obtain⟨dst,op,type,pos,after,guard⟩:=o
  cases op with
  |load t a=>simp only[xpe];split<;>exact⟨_,rfl⟩
  |slice t x lo hi mx=>simp only[xpe];split<;>exact⟨_,rfl⟩
  |lookup t x ix ok=>simp only[xpe];split<;>exact⟨_,rfl⟩
  |_=>simp at h
theorem stFine_ok{c:FCtx}{hs:Hs}{fc next0:Nat}{ops:Array Oper}{i j:Nat}{sl:Nat->AV}(h:xv9 ops i j=true)(hmk:∀x y,ops[i]?=some x->ops[j]?=some y->(xps x=true->xqn y.op=true->1<=meek (nm (pol c.f (x.dst.getD 0))) x sl)/\(xps y=true->xqn x.op=true->1<=meek (nm (pol c.f (y.dst.getD 0))) y sl)) :
 pairOK pol (c.c hs) fc next0 ops i j sl=true:=by
 unfold xv9 at h
 unfold pairOK
 split at h
 .rename_i x y e1 e2
  obtain⟨hm1,hm2⟩:=hmk x y e1 e2
  rw[e1,e2]
  simp only
  rw[x17y]at h ⊢
  refine⟨h.1,?_⟩
  rw[x18t]
  right
  have meek12:∀{mode:Nat} {x:Oper},1<=meek mode x sl->(meek mode x sl == 2||(meek mode x sl == 1&&([]:List Id).isEmpty))=true:=by
   intro mode x h1
   have:=meek_le (mode:=mode) (o:=x) (sl:=sl)
   have:meek mode x sl=1\/meek mode x sl=2:=by omega
   rcases this with e|e<;>rw[e]<;>rfl
  have h2:=h.2
  rw[x18t]at h2
  rcases h2 with h2|h2
  .rw[x17y,x17y]at h2
   obtain⟨⟨hx,hy⟩,h3⟩:=h2
   rw[x17t (by simpa using hx),x17t (by simpa using hy)]
   rw[x18t,x18t,x17y]at h3
   rcases h3 with (h3|h3)|⟨h3,h4⟩
   .rw[xvc h3];rfl
   .rw[xvc h3];unfold xoz;split<;>simp_all
   .obtain⟨r1,q1⟩:=xzs (id0:=((c.c hs).u,fc+i,x.dst.getD 0)) (sl:=sl) h3
    obtain⟨r2,q2⟩:=xzs (id0:=((c.c hs).u,fc+j,y.dst.getD 0)) (sl:=sl) h4
    rw[q1,q2]
    unfold xoz
    split
    .rfl
    .rfl
    .rename_i e3 e4
     cases e3;cases e4
     simp[disj]
    .rename_i n1 n2 n3
     exact(n3 _ _ _ _ rfl rfl).elim
  .unfold ncPair at h2
   rw[x18t,x17y,x17y,x17y,x17y]at h2
   rcases h2 with ⟨⟨h3,h4⟩,h5⟩|⟨⟨h3,h4⟩,h5⟩
   .rw[x17u h3]
    unfold xs0
    rw[h4,xvc h5]
    simp only[x19j,x1a7,x1ai]
    exact meek12 (hm1 h3 h5)
   .have hx:xps x=false:=by simpa using h4
    rw[x17t (by rw[hx];simp),x17u h3]
    unfold xs0
    rw[hx,xvc h5]
    simp only[x18b,x19j]
    exact meek12 (hm2 h3 h5)
 .cases h
theorem xxm{f:Nat}{ops:Array Oper}{sl:Nat->AV}:∀{l:List Nat},xtv pol f ops sl l=true->∀j∈l,∃o,ops[j]?=some o/\1<=meek (nm (pol f (o.dst.getD 0))) o sl
 |[],_,j,hj=>by cases hj
 |a::l,h,j,hj=>by
  simp only[xtv,x17y]at h
  rcases x186.mp hj with rfl|hj
  .have h1:=h.1
   split at h1
   .rename_i o e
    rw[xxl]at h1
    exact⟨o,e,x19o h1⟩
   .cases h1
  .exact xxm h.2 j hj
theorem xzt{f u fc next0:Nat}{ops:Array Oper}{sl:Nat->AV}:∀{l:List (Nat×Nat)},xsw pol f u fc next0 ops sl l=true->∀p∈l,xw6 pol f u fc next0 ops p.1 p.2 sl=true
 |[],_,p,hp=>by cases hp
 |(i,j)::l,h,p,hp=>by
  simp only[xsw,x17y]at h
  rcases x186.mp hp with rfl|hp
  .exact h.1
  .exact xzt h.2 p hp
theorem fdraw_ok{c:FCtx}{hs:Hs}{fc next0:Nat}{ops:Array Oper}{sl:Nat->AV}(h1:xw7 ops=true)(h2:xtv pol c.f ops sl (meekL pol c.f ops)=true)(h3:xsw pol c.f c.u fc next0 ops sl (dynP pol c.f ops)=true) :
 xtr pol (c.c hs) fc next0 ops sl=true:=by
 unfold xtr
 unfold xw7 at h1
 simp only at h1 ⊢
 rw[x181]at h1 ⊢
 intro j hj
 have h1j:=h1 j hj
 rw[x17y,x17y]at h1j ⊢
 refine⟨h1j.1,?_⟩
 have h4:=h1j.2
 rw[x181]at h4 ⊢
 intro i hi
 rw[x17y]
 refine⟨h4 i hi,?_⟩
 rw[x18t]
 by_cases hb:((befs ops).getD j []).contains i=true
 .exact Or.inl hb
 .right
  by_cases hsf:xui pol c.f ops i j=true
  .exact softP_ok hsf
  by_cases hf:xv9 ops i j=true
  .refine stFine_ok hf λx y e1 e2=>?_
   have hap:x.apart ops y=true:=by
    unfold xv9 at hf
    rw[e1,e2]at hf
    simp only[x17y]at hf
    exact hf.1
   have nsx:xqn y.op=true->softA pol c.f ops i=false:=λhy=>by
    rw[x18l]
    intro ha
    apply hsf
    unfold xui
    rw[e1,e2]
    simp only[hap,xzr e1 ha hy,Bool.true_or,Bool.and_self]
   have nsy:xqn x.op=true->softA pol c.f ops j=false:=λhx=>by
    rw[x18l]
    intro ha
    apply hsf
    unfold xui
    rw[e1,e2]
    simp only[hap,xzr e2 ha hx,Bool.or_true,Bool.and_self]
   have hij:i<j:=x18q.mp hi
   have hjn:j<ops.size:=x18q.mp hj
   have hbi:((befs ops).getD i []).contains j=false:=by
    have:=h1 i (x18q.mpr (by omega))
    rw[x17y,x17y]at this
    have h5:=this.1.2
    rw[x181]at h5
    rw[x18l]
    intro hc
    have:=h5 j (List.contains_iff_mem.mp hc)
    have:=x19f this
    omega
   have hn:∀o,xps o=true->xqn o.op=true->False:=by
    intro o a b
    obtain⟨dst,op,type,pos,after,guard⟩:=o
    cases op with
    |call cl=>
     obtain⟨callee,args,argTypes⟩:=cl
     cases callee<;>simp[xps,xqn]at a b
    |_=>simp[xps]at a
   refine⟨λhx hy=>?_,λhy hx=>?_⟩
   .obtain⟨o,e3,e4⟩:=xxm h2 i (by
     unfold meekL
     rw[x18x]
     refine⟨?_,by rw[nsx hy];rfl⟩
     unfold xxg
     simp only[x18x,x18q]
     refine⟨by omega,?_⟩
     rw[x17y,e1]
     refine⟨hx,?_⟩
     rw[List.any_eq_true]
     refine⟨j,hj,?_⟩
     rw[e2]
     have hyc:xps y=false:=by
      rw[x18l];exact λe=>hn y e hy
     simp only[hyc,hy,hbi,x18b,x19j]
     simpa using hb)
    rw[e1]at e3;cases e3;exact e4
   .obtain⟨o,e3,e4⟩:=xxm h2 j (by
     unfold meekL
     rw[x18x]
     refine⟨?_,by rw[nsy hx];rfl⟩
     unfold xxg
     simp only[x18x,x18q]
     refine⟨by omega,?_⟩
     rw[x17y,e2]
     refine⟨hy,?_⟩
     rw[List.any_eq_true]
     refine⟨i,x18q.mpr (by omega),?_⟩
     rw[e1]
     have hxc:xps x=false:=by
      rw[x18l];exact λe=>hn x e hx
     simp only[hxc,hx,hbi,x18b,x19j,x1av]
     simpa using hb)
    rw[e2]at e3;cases e3;exact e4
  .refine x12r (xzt h3 (i,j) ?_)
   unfold dynP
   rw[x18x]
   refine⟨?_,by simpa using hsf⟩
   unfold xzk
   simp only[x18y,x18z,x18x]
   refine⟨j,hj,i,⟨hi,?_⟩,rfl⟩
   simp only[x1bf]at hf hb
   simp only[hf,hb,Bool.or_self,x18b]
theorem freg_ok(hc:xtb P pol call){c:FCtx}{A:Nat->Hs}(hm:Mono A)(hu:Under c.hs A){ops:Array Oper}{draw:Bool}{s:Fs}{k:Fs->Option R}{r:R}(h:fxReg P pol call c ops draw s k=some r):∃s',k s'=some r/\∃n,xrs P pol (xpx P pol n) (c.c (A n)) ops draw s.s=some s'.s:=by
 unfold fxReg at h
 obtain⟨s1,h1,h2,n,h3⟩:=frun_ok hc hm hu h
 cases draw with
 |false=>
  refine⟨{s1 with fc:=s.fc+ops.size},h1,n,?_⟩
  unfold xrs
  rw[h3]
  rfl
 |true=>
  rw[cond_true]at h1
  cases hml:xts P ops with
  |true=>rw[hml]at h1;cases h1
  |false=>
  cases hd:xw7 ops with
  |false=>rw[hml,hd]at h1;cases h1
  |true=>
   rw[hml,hd,x18b,x19j,cond_true]at h1
   have key:xtv pol c.f ops s1.sl (meekL pol c.f ops)=true->xsw pol c.f c.u s.fc s.m.next ops s1.sl (dynP pol c.f ops)=true->k {s1 with fc:=s.fc+ops.size}=some r->∃s',k s'=some r/\∃n,xrs P pol (xpx P pol n) (c.c (A n)) ops true s.s=some s'.s:=by
    intro a b e
    refine⟨_,e,n,?_⟩
    unfold xrs
    rw[h3]
    simp only
    have hdr:xtr pol (c.c (A n)) s.s.fc s.s.st.next ops s1.s.sl=true:=fdraw_ok hd a b
    rw[hdr,hml]
    rfl
   split at h1
   .rename_i e1
    split at h1
    .rename_i e2
     exact key (by rw[e1];rfl) (by rw[e2];rfl) h1
    .rename_i p q e2
     cases hy:xsw pol c.f c.u s.fc s.m.next ops s1.sl (p::q)with
     |false=>rw[hy]at h1;cases h1
     |true=>rw[hy]at h1;exact key (by rw[e1];rfl) (by rw[e2];exact hy) h1
   .rename_i a b e1
    cases hy:(xtv pol c.f ops s1.sl (a::b)&&xsw pol c.f c.u s.fc s.m.next ops s1.sl (dynP pol c.f ops))with
    |false=>rw[hy]at h1;cases h1
    |true=>
     rw[hy]at h1
     rw[x17y]at hy
     exact key (by rw[e1];exact hy.1) hy.2 h1
end Go.Ix
