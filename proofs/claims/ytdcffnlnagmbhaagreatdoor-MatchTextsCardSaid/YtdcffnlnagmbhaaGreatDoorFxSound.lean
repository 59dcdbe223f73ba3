import Derived.Test.YtdcffnlnagmbhaaGreatDoorFxOps
set_option linter.unusedSimpArgs false
set_option linter.unusedVariables false
namespace Go.Ix
variable{P:Program}{pol:Pol}{call:xpb}{R:Type}
theorem shut1_get(h:Hp)(i j:Id):hget (shut1 h i) j=shut [i] (hget h) j:=by
 unfold shut1 shut
 by_cases hj:j=i
 .subst hj
  rw[x16u (x190.mpr rfl)]
  cases e:hget h j with
  |none=>simp[e]
  |some o=>
   cases o with
   |map es=>simp[e]
   |lp d=>simp[e]
   |row cs v f=>
    cases f with
    |true=>simp[e]
    |false=>simp[xvl]
 .rw[x16t (by simpa using hj)]
  split
  .rw[xvl,x16t hj]
  .rfl
theorem xym:∀(ids:List Id) (h:Hp),hget (xtj ids h)=shut ids (hget h)
 |[],h=>by funext i;simp[xtj,shut]
 |i::r,h=>by
  funext j
  rw[xtj,xym r]
  have h1:=shut1_get h i j
  unfold shut at h1 ⊢
  rw[h1]
  by_cases hj:j=i
  .subst hj
   simp only[x190,x17k,x174,true_or]
   cases e:hget h j with
   |none=>simp
   |some o=>
    cases o with
    |map es=>simp
    |lp d=>simp
    |row cs v f=>simp
  .simp[hj]
theorem xyn(h':Hp):∀(ids:List Id) (h:Hp),(∀i∈ids,∃o,hget h' i=some o)->∀j,hget (keepH h' ids h) j=if j∈ids then hget h' j else hget h j
 |[],h,_,j=>by simp[keepH]
 |i::r,h,hi,j=>by
  obtain⟨o,ho⟩:=hi i (x17l ..)
  simp only[keepH,ho]
  rw[xyn h' r _ λx hx=>hi x (x172 _ hx)]
  simp only[x174,xvl]
  by_cases hj:j∈r
  .simp[hj]
  .by_cases hji:j=i
   .subst hji;simp[hj,ho]
   .simp[hj,hji]
theorem row1_nil{h:Hp}{u:Nat}(hn:∀e∈h,e.1≠u):row1 h u=[]:=by
 induction h with
 |nil=>rfl
 |cons e r ih=>
  obtain⟨v,l⟩:=e
  simp only[row1]
  have:Nat.beq v u=false:=by
   rw[x17f];intro x;exact hn _ (x17l ..) (x171 x)
  rw[this]
  exact ih λe he=>hn e (x172 _ he)
theorem xvn{p:Nat×List (Nat×Nat×Ob)->Bool}{u:Nat}{t:Hp}(ht:∀e∈t,e.1≠u):∀{h:Hp},(∀l,p (u,l)=true)->row1 (h.filter p++t) u=row1 h u
 |[],_=>row1_nil ht
 |(v,l)::r,hp=>by
  simp only[List.filter_cons]
  by_cases hv:v=u
  .subst hv
   rw[x16u (hp l)]
   simp[row1]
  .have hb:Nat.beq v u=false:=by
    rw[x17f];intro x;exact hv (x171 x)
   split
   .simp only[x18k,row1,hb,cond_false];exact xvn ht hp
   .simp only[row1,hb,cond_false];exact xvn ht hp
theorem xyo{u:Nat}{t:Hp}:∀{h:Hp},(∀e∈h,e.1≠u)->row1 (h++t) u=row1 t u
 |[],_=>rfl
 |(v,l)::r,hn=>by
  have hb:Nat.beq v u=false:=by
   rw[x17f];intro x;exact hn _ (x17l ..) (x171 x)
  simp only[x18k,row1,hb,cond_false]
  exact xyo λe he=>hn e (x172 _ he)
theorem xyp(h' h:Hp)(n:Nat):hget ((h'.filter λe=>Nat.ble n e.1)++(h.filter λe=>Nat.blt e.1 n))=λi=>if n<=i.1 then hget h' i else hget h i:=by
 funext i
 unfold hget
 by_cases hi:n<=i.1
 .rw[x16u hi,xvn]
  .intro e he
   rw[x17r]at he
   have:=x18c he.2
   omega
  .intro l;exact Nat.ble_eq_true_of_le hi
 .rw[x16t hi,xyo]
  .have:row1 (List.filter (λe=>e.fst.blt n) h++[]) i.1=row1 h i.1:=xvn (λe he=>by cases he) (λl=>Nat.ble_eq_true_of_le (by omega))
   rw[x19l]at this
   rw[this]
  .intro e he
   rw[x17r]at he
   have:=x18c he.2
   omega
def Mono(A:Nat->Hs):Prop:=∀n m,n<=m->HLe (A n) (A m)
def Under(hs:FHs)(A:Nat->Hs):Prop:=∀id h,xs5 hs id=some h->∀args m m',h args m=some m'->∃n g,hsAt (A n) id=some g/\g args m.st=some m'.st
def Nil:Nat->Hs:=λ_=>[]
theorem Mono.nil:Mono Nil:=λ_ _ _=>trivial
theorem Under.nil:Under [] Nil:=λ_ _ h=>by simp[xs5]at h
theorem Under.shift{hs:FHs}{A:Nat->Hs}(hm:Mono A)(h:Under hs A):Under hs λn=>A (n+1):=by
 intro id g hg args m m' e
 obtain⟨n,g',h1,h2⟩:=h id g hg args m m' e
 obtain⟨g2,h3,h4⟩:=xwn (hm n (n+1) (by omega)) h1
 exact⟨n,g2,h3,h4 _ _ _ h2⟩
def xsy(P:Program)(pol:Pol)(call:xpb):Prop:=∀hs A f args m r m',Mono A->Under hs A->call hs f args m=some (r,m')->∃n,xq7 P pol n (A n) f args m.st=some (r,m'.st)
theorem callLe{n m:Nat}(h:n<=m):xti (xq7 P pol n) (xq7 P pol m):=body_le (xrk h)
theorem xyq(hc:xsy P pol call){hs:FHs}{A:Nat->Hs}(hm:Mono A)(hu:Under hs A){mode:Nat}{fv:AV}{args:List AV}{m m':Mem}{r:AV}(h:xr6 call hs mode fv args m=some (r,m')):∃n,xq1 (xq7 P pol n) (A n) mode fv args m.st=some (r,m'.st):=by
 cases fv with
 |clo f caps=>
  simp only[xr6]at h
  split at h
  .unfold xp9 at h
   split at h
   .rename_i l' e1
    split at h
    .rename_i r0 m0 e2
     rw[x16x]at h
     obtain⟨r1,h1,h2⟩:=h
     cases h2
     obtain⟨n,hn⟩:=hc _ _ _ _ _ _ _ Mono.nil Under.nil e2
     refine⟨n,?_⟩
     have e1':(args++caps).mapM (frz m.st.objs deep)=some l':=e1
     have hn':xq7 P pol n [] f l' xrf=some (r0,m0.st):=hn
     have h1':frz m0.st.objs deep r0=some r:=h1
     simp only[xq1,e1',hn',h1',Option.map_some]
     rw[show(Mem.mk (xtj ((args++caps).flatMap (xpg m.get deep)) m.hp) m.next).st={m.st with objs:=shut ((args++caps).flatMap (xpg m.st.objs deep)) m.st.objs}from by
      simp only[Mem.st,Mem.get]
      congr 1
      exact xym _ _]
    .cases h
   .cases h
  .unfold sCall3 at h
   split at h
   .rename_i l' e1
    split at h
    .rename_i r0 m0 e2
     split at h
     .rename_i e3
      cases h
      obtain⟨n,hn⟩:=hc _ _ _ _ _ _ _ Mono.nil Under.nil e2
      refine⟨n,?_⟩
      have e1':(args++caps).mapM (frz m.st.objs deep)=some l':=e1
      have hn':xq7 P pol n [] f l' xrf=some (r,m0.st):=hn
      simp only[xq1,e1',hn',x16u e3]
     .cases h
    .cases h
   .cases h
  .unfold sCall4 at h
   split at h
   .rename_i l' e1
    split at h
    .rename_i r0 m0 e2
     split at h
     .rename_i e3
      cases h
      obtain⟨n,hn⟩:=hc _ _ _ _ _ _ _ Mono.nil Under.nil e2
      refine⟨n,?_⟩
      have e1':(args++caps).mapM (frz m.st.objs deep)=some l':=e1
      have hn':xq7 P pol n [] f l' {objs:=λ_=>none,next:=m.next}=some (r,m0.st):=hn
      simp only[xq1]
      rw[e1']
      simp only
      rw[show({objs:=λ_=>none,next:=m.st.next}:St)={objs:=λ_=>none,next:=m.next}from rfl,hn']
      simp only
      split
      case isFalse hno=>exact absurd e3 hno
      have hk:∀i∈xpg m0.get deep r,∃o,hget m0.hp i=some o:=by
       intro j hj
       rw[x16y]at e3
       have:=x16z.mp e3.2 j hj
       rw[x16y]at this
       revert this
       show _/\(match hget m0.hp j with|some (.row cs _ false)=>cs.all isSc|_=>false)=true->_
       rintro⟨-,h4⟩
       cases e:hget m0.hp j with
       |none=>rw[e]at h4;cases h4
       |some o=>exact⟨o,rfl⟩
      congr 2
      simp only[Mem.st,Mem.get]
      congr 1
      funext i
      exact(xyn _ _ _ hk i).symm
     .cases h
    .cases h
   .cases h
  .unfold xsj at h
   split at h
   .rename_i e1
    split at h
    .rename_i r0 m0 e2
     cases h
     obtain⟨n,hn⟩:=hc _ _ _ _ _ _ _ Mono.nil Under.nil e2
     refine⟨n,?_⟩
     have hn':xq7 P pol n [] f (args++caps) {objs:=λ_=>none,next:=m.next}=some (r,m0.st):=hn
     simp only[xq1,x16u e1]
     rw[show({objs:=λ_=>none,next:=m.st.next}:St)={objs:=λ_=>none,next:=m.next}from rfl,hn']
     simp only[Mem.st]
     congr 2
     exact congrArg (St.mk · _) (xyp m0.hp m.hp m.next).symm
    .cases h
   .cases h
  .rename_i h0 h3 h4 h1
   obtain⟨n,hn⟩:=hc _ _ _ _ _ _ _ hm hu h
   refine⟨n,?_⟩
   have key:∀mode:Nat,(mode=0->False)->(mode=3->False)->(mode=4->False)->(mode=1->False)->xq1 (xq7 P pol n) (A n) mode (.clo f caps) args m.st=xq7 P pol n (A n) f (args++caps) m.st:=by
    intro mode a b c d
    unfold xq1
    split<;>first|rfl|(exact(a rfl).elim)|(exact(b rfl).elim)|(exact(c rfl).elim)|(exact(d rfl).elim)|skip
    split<;>first|rfl|(exact(a rfl).elim)|(exact(b rfl).elim)|(exact(c rfl).elim)|(exact(d rfl).elim)|simp_all
    all_goals simp_all
   rw[key mode h0 h3 h4 h1]
   exact hn
 |yld id=>
  simp only[xr6]at h
  split at h
  .rename_i g e
   rw[x16x]at h
   obtain⟨m1,h1,h2⟩:=h
   cases h2
   obtain⟨n,g',h3,h4⟩:=hu _ _ e _ _ _ h1
   exact⟨n,by simp only[xq1,h3,h4,Option.map_some];rfl⟩
  .cases h
 |_=>simp[xr6]at h
def FCtx.c(c:FCtx)(hs:Hs):Ctx:={f:=c.f,u:=c.u,nt:=c.nt,hs:=hs}
theorem xwq{ops:Array Oper}{o:Oper}{sl:Nat->AV}:xr8 ops o sl=xvi ops o.guard sl:=by
 unfold xr8 xvi
 cases o.guard with
 |none=>rfl
 |some g=>
  obtain⟨j,w⟩:=g
  simp only
  cases(ops[j]?).bind (·.dst)with
  |none=>rfl
  |some t=>simp only[sW];rfl
theorem xwr{c:FCtx}{hs:Hs}{dst:Option Tmp}{v:AV}{s:Fs}{k:Fs->Option R}{r:R}(h:fput c.nt dst v s k=some r):∃s',put (c.c hs) dst v s.s=some s'.s/\k s'=some r/\s'.fc=s.fc/\s'.m=s.m:=by
 unfold fput at h
 split at h
 .rename_i d
  cases hd:Nat.blt d c.nt with
  |false=>rw[hd]at h;cases h
  |true=>
   rw[hd]at h
   exact⟨_,by simp only[put];rw[x16u (show d<(c.c hs).nt from x18c hd)];rfl,h,rfl,rfl⟩
 .exact⟨s,rfl,h,rfl,rfl⟩
theorem fop_ok(hc:xsy P pol call){c:FCtx}{A:Nat->Hs}(hm:Mono A)(hu:Under c.hs A){ops:Array Oper}{i:Nat}{o:Oper}(ho:ops[i]?=some o){s:Fs}{k:AV->Mem->Option R}{r:R}(h:fxOp P pol call c (c.u,s.fc+i,o.dst.getD 0) o s.sl s.m k=some r)(hw:xr8 ops o s.sl=true) :
 ∃v m',k v m'=some r/\∃n,∀s1,put (c.c (A n)) o.dst v {s with m:=m' }.s=some s1->xqk P pol (xq7 P pol n) (c.c (A n)) ops i s.s=some s1:=by
 by_cases hn:xq2 o=true
 .obtain⟨dst,op,type,pos,after,guard⟩:=o
  cases op with
  |call cl=>
   obtain⟨callee,args,argTypes⟩:=cl
   cases callee with
   |value fv=>
    simp only[fxOp]at h
    rw[x17u]at h
    obtain⟨⟨v,m'⟩,h1,h2⟩:=h
    obtain⟨n,hn⟩:=xyq hc hm hu h1
    refine⟨v,m',h2,n,λs1 hp=>?_⟩
    unfold xqk
    rw[ho]
    simp only
    have hw':xr8 ops {dst:=dst,op:=Op.call {callee:=Callee.value fv,args:=args,argTypes:=argTypes},type:=type,pos:=pos,after:=after,guard:=guard} s.s.sl=true:=hw
    rw[x16u hw']
    have hn':xq1 (xq7 P pol n) (c.c (A n)).hs (nm (pol (c.c (A n)).f (dst.getD 0))) (ev s.s.sl fv) (args.toList.map (ev s.s.sl)) s.s.st=some (v,m'.st):=hn
    rw[hn']
    exact hp
   |_=>simp[xq2]at hn
  |_=>simp[xq2]at hn
 .have hn':xq2 o=false:=by simpa using hn
  by_cases hi:∃rv name args at',o.op=.call ⟨.invoke rv name,args,at'⟩
  .obtain⟨rv,name,args,at',hop⟩:=hi
   obtain⟨dst,op,type,pos,after,guard⟩:=o
   simp only at hop
   subst hop
   simp only[fxOp,fxMeth]at h
   rw[x17u]at h
   obtain⟨⟨v,m'⟩,h1,h2⟩:=h
   rw[x17u]at h1
   obtain⟨p,hp,h1⟩:=h1
   obtain⟨n,hn⟩:=xyq hc hm hu h1
   refine⟨v,m',h2,n,λs1 hp1=>?_⟩
   unfold xqk
   rw[ho]
   simp only
   have hw':xr8 ops {dst:=dst,op:=Op.call {callee:=Callee.invoke rv name,args:=args,argTypes:=at' },type:=type,pos:=pos,after:=after,guard:=guard} s.s.sl=true:=hw
   rw[x16u hw']
   have hn':xq1 (xq7 P pol n) (c.c (A n)).hs (nm (pol (c.c (A n)).f (dst.getD 0))) (.clo p.1 []) (p.2::args.toList.map (ev s.s.sl)) s.s.st=some (v,m'.st):=hn
   have hp':xu1 P (ev s.s.sl rv) name=some p:=hp
   simp only[hp',hn']
   exact hp1
  obtain⟨v,m',h1,h2,h3⟩:=fxOp_ok hn' (λrv name args at' e=>hi ⟨rv,name,args,at',e⟩) h
  refine⟨v,m',h3,0,λs1 hp=>?_⟩
  unfold xqk
  rw[ho]
  simp only
  have hw':xr8 ops o s.s.sl=true:=hw
  rw[x16u hw']
  have h1':ixOp P ((c.c (A 0)).u,s.s.fc+i,o.dst.getD 0) o s.s.sl s.s.st.objs=some (v,m'.get):=h1
  have hp':put (c.c (A 0)) o.dst v {s.s with st:={s.s.st with objs:=m'.get}}=some s1:=by
   have:({s with m:=m' }:Fs).s={s.s with st:={s.s.st with objs:=m'.get}}:=by
    simp only[Fs.s,Mem.st,h2]
   rw[<-this];exact hp
  split
  .rename_i fv args at' e
   have:xq2 o=true:=by simp only[xq2,e]
   rw[this]at hn';cases hn'
  .rename_i rv name args at' e
   exact absurd ⟨rv,name,args,at',e⟩ hi
  .rw[h1']
   exact hp'
theorem fstep_ok(hc:xsy P pol call){c:FCtx}{A:Nat->Hs}(hm:Mono A)(hu:Under c.hs A){ops:Array Oper}{i:Nat}{s:Fs}{k:Fs->Option R}{r:R}(h:fxStep P pol call c ops i s k=some r):∃s',k s'=some r/\s'.fc=s.fc/\∃n,xqk P pol (xq7 P pol n) (c.c (A n)) ops i s.s=some s'.s:=by
 unfold fxStep at h
 split at h
 .rename_i e
  exact⟨s,h,rfl,0,by unfold xqk;rw[e]⟩
 .rename_i o e
  split at h
  .rename_i hg
   obtain⟨v,m',h1,n,h2⟩:=fop_ok hc hm hu e h (by rw[xwq,hg];rfl)
   obtain⟨s',h3,h4,h5,h6⟩:=xwr (hs:=A n) h1
   exact⟨s',h4,h5,n,h2 _ h3⟩
  .rename_i g hg
   rw[x17u]at h
   obtain⟨⟨v,m'⟩,h1,h2⟩:=h
   cases hw:xvi ops (some g) s.sl with
   |true=>
    rw[hw,cond_true]at h1
    obtain⟨v1,m1,h3,n,h4⟩:=fop_ok hc hm hu e h1 (by rw[xwq,hg];exact hw)
    cases h3
    obtain⟨s',h5,h6,h7,h8⟩:=xwr (hs:=A n) h2
    exact⟨s',h6,h7,n,h4 _ h5⟩
   |false=>
    rw[hw,cond_false]at h1
    cases h1
    obtain⟨s',h5,h6,h7,h8⟩:=xwr (hs:=A 0) h2
    refine⟨s',h6,h7,0,?_⟩
    unfold xqk
    rw[e]
    simp only
    rw[x16t (by rw[show s.s.sl=s.sl from rfl,xwq,hg,hw];simp)]
    exact h5
theorem frun_ok(hc:xsy P pol call){c:FCtx}{A:Nat->Hs}(hm:Mono A)(hu:Under c.hs A){ops:Array Oper}:∀{L:List Nat} {s:Fs} {k:Fs->Option R} {r:R},
 fxRun P pol call c ops L s k=some r->∃s',k s'=some r/\s'.fc=s.fc/\∃n,xqf P pol (xq7 P pol n) (c.c (A n)) ops L s.s=some s'.s
 |[],s,k,r,h=>⟨s,h,rfl,0,rfl⟩
 |i::L,s,k,r,h=>by
  obtain⟨s1,h1,h2,n1,h3⟩:=fstep_ok hc hm hu h
  obtain⟨s2,h4,h5,n2,h6⟩:=frun_ok hc hm hu h1
  refine⟨s2,h4,h5.trans h2,max n1 n2,?_⟩
  have q1:=step_le (callLe (P:=P) (pol:=pol) (Nat.le_max_left n1 n2)) (hm n1 (max n1 n2) (Nat.le_max_left ..)) h3
  have q2:=run_le (callLe (P:=P) (pol:=pol) (Nat.le_max_right n1 n2)) (hm n2 (max n1 n2) (Nat.le_max_right ..)) h6
  simp only[xqf]
  have q1':xqk P pol (xq7 P pol (max n1 n2)) (c.c (A (max n1 n2))) ops i s.s=some s1.s:=q1
  rw[q1']
  exact q2
theorem xws{id0:Id}{o:Oper}{sl:Nat->AV}:tch id0 o sl=xpq id0 o sl:=by
 obtain⟨dst,op,type,pos,after,guard⟩:=o
 unfold tch
 cases op with
 |load t a=>rfl
 |store t a x=>rfl
 |slice t x lo hi mx=>rfl
 |lookup t x ix ok=>rfl
 |call cl=>
  obtain⟨callee,args,argTypes⟩:=cl
  simp only
  split
  .rename_i s x e2
   simp only[xpq,e2];rfl
  .rename_i s x e2
   simp only[xpq,e2];rfl
  .rfl
 |_=>rfl
theorem xwt{mode:Nat}{o:Oper}{sl:Nat->AV}:mkO mode o sl=meek mode o sl:=by
 obtain⟨dst,op,type,pos,after,guard⟩:=o
 cases op with
 |call cl=>
  obtain⟨callee,args,argTypes⟩:=cl
  cases callee with
  |value fv=>rfl
  |_=>rfl
 |_=>rfl
theorem meek_le{mode:Nat}{o:Oper}{sl:Nat->AV}:meek mode o sl<=2:=by
 rw[<-xwt]
 unfold mkO mkD mkM
 split
 .split
  .split
   .split
    .omega
    .split<;>omega
   .omega
  .omega
 .omega
theorem cAp_ok{mode:Nat}{lim:Option Nat}{id0:Id}{x y:Oper}{sl:Nat->AV}(hy:xq2 y=false)(h:cAp lim (tch id0 y sl) (mkO mode x sl)=true):xrq mode lim id0 x y sl=true:=by
 unfold xrq
 rw[xws,xwt]at h
 rw[hy]
 simp only[x175,x189]
 unfold cAp at h
 split at h
 .rename_i r ws e
  rw[e]
  simp only
  rw[x16y]at h ⊢
  refine⟨?_,?_⟩
  .have h1:=h.1
   cases lim with
   |none=>rfl
   |some n=>
    simp only at h1 ⊢
    rw[x16z]at h1 ⊢
    intro i hi
    exact x17y (x18c (h1 i hi))
  .have h2:=h.2
   rw[x17o,x16y]at h2 ⊢
   rcases h2 with h2|⟨h2,h3⟩
   .exact Or.inl (by rw[x171 h2];rfl)
   .exact Or.inr ⟨by rw[x171 h2];rfl,h3⟩
 .cases h
theorem x11l{c:FCtx}{hs:Hs}{fc next0:Nat}{ops:Array Oper}{i j:Nat}{sl:Nat->AV}(h:xvj pol c.f c.u fc next0 ops i j sl=true):pairOK pol (c.c hs) fc next0 ops i j sl=true:=by
 unfold xvj at h
 unfold pairOK
 split at h
 .rename_i x y e1 e2
  rw[e1,e2]
  simp only
  rw[x16y]at h ⊢
  refine⟨h.1,?_⟩
  rw[x17o]
  right
  have h2:=h.2
  split at h2
  .rename_i hx
   rw[x16u hx]
   rw[x16y]at h2
   exact cAp_ok (by simpa using h2.1) h2.2
  .rename_i hx
   rw[x16t hx]
   split at h2
   .rename_i hy
    rw[x16u hy]
    exact cAp_ok (by simpa using hx) h2
   .rename_i hy
    rw[x16t hy]
    rw[xws,xws]at h2
    exact h2
 .cases h
theorem softP_ok{c:FCtx}{hs:Hs}{fc next0:Nat}{ops:Array Oper}{i j:Nat}{sl:Nat->AV}(h:xu2 pol c.f ops i j=true):pairOK pol (c.c hs) fc next0 ops i j sl=true:=by
 unfold xu2 at h
 unfold pairOK
 split at h
 .rename_i x y e1 e2
  rw[e1,e2]
  simp only
  rw[x16y]at h ⊢
  refine⟨h.1,?_⟩
  rw[x17o]
  exact Or.inl h.2
 .cases h
theorem x11m{op:Op}(h:xqu op=true):xsi op=true:=by
 cases op with
 |call c=>
  obtain⟨callee,args,argTypes⟩:=c
  cases callee with
  |builtin b=>cases b<;>simp[xqu]at h<;>rfl
  |_=>simp[xqu]at h
 |_=>first|(simp[xqu]at h;done)|rfl
theorem xyr{f:Nat}{ops:Array Oper}{i:Nat}{x:Oper}{y:Op}(hx:ops[i]?=some x)(h:softA pol f ops i=true)(hy:xqu y=true):xs3 (pol f (x.dst.getD 0)) x y=true:=by
 unfold softA at h
 rw[hx]at h
 simp only at h
 unfold xs3
 rw[x16y]at h ⊢
 refine⟨h.1,?_⟩
 rw[x17o]
 right
 rw[x16y]
 exact⟨x11m hy,h.2⟩
theorem xuu{id0:Id}{o:Oper}{sl:Nat->AV}(h:xqu o.op=true):xpq id0 o sl=(some [],some []):=by
 obtain⟨dst,op,type,pos,after,guard⟩:=o
 cases op with
 |call cl=>
  obtain⟨callee,args,argTypes⟩:=cl
  cases callee with
  |builtin b=>cases b<;>first|rfl|(simp[xqu]at h)
  |_=>simp[xqu]at h
 |_=>first|rfl|(simp[xqu]at h)
theorem xys{id0:Id}{o:Oper}{sl:Nat->AV}(h:wNone o.op=true):∃r,xpq id0 o sl=(some r,some []):=by
 unfold wNone at h
 rw[x17o]at h
 rcases h with h|h
 .exact⟨[],xuu h⟩
 .obtain⟨dst,op,type,pos,after,guard⟩:=o
  cases op with
  |load t a=>simp only[xpq];split<;>exact⟨_,rfl⟩
  |slice t x lo hi mx=>simp only[xpq];split<;>exact⟨_,rfl⟩
  |lookup t x ix ok=>simp only[xpq];split<;>exact⟨_,rfl⟩
  |_=>simp at h
theorem stFine_ok{c:FCtx}{hs:Hs}{fc next0:Nat}{ops:Array Oper}{i j:Nat}{sl:Nat->AV}(h:xur ops i j=true)(hmk:∀x y,ops[i]?=some x->ops[j]?=some y->(xq2 x=true->xqu y.op=true->1<=meek (nm (pol c.f (x.dst.getD 0))) x sl)/\(xq2 y=true->xqu x.op=true->1<=meek (nm (pol c.f (y.dst.getD 0))) y sl)) :
 pairOK pol (c.c hs) fc next0 ops i j sl=true:=by
 unfold xur at h
 unfold pairOK
 split at h
 .rename_i x y e1 e2
  obtain⟨hm1,hm2⟩:=hmk x y e1 e2
  rw[e1,e2]
  simp only
  rw[x16y]at h ⊢
  refine⟨h.1,?_⟩
  rw[x17o]
  right
  have meek12:∀{mode:Nat} {x:Oper},1<=meek mode x sl->(meek mode x sl == 2||(meek mode x sl == 1&&([]:List Id).isEmpty))=true:=by
   intro mode x h1
   have:=meek_le (mode:=mode) (o:=x) (sl:=sl)
   have:meek mode x sl=1\/meek mode x sl=2:=by omega
   rcases this with e|e<;>rw[e]<;>rfl
  have h2:=h.2
  rw[x17o]at h2
  rcases h2 with h2|h2
  .rw[x16y,x16y]at h2
   obtain⟨⟨hx,hy⟩,h3⟩:=h2
   rw[x16t (by simpa using hx),x16t (by simpa using hy)]
   rw[x17o,x17o,x16y]at h3
   rcases h3 with (h3|h3)|⟨h3,h4⟩
   .rw[xuu h3];rfl
   .rw[xuu h3];unfold xpp;split<;>simp_all
   .obtain⟨r1,q1⟩:=xys (id0:=((c.c hs).u,fc+i,x.dst.getD 0)) (sl:=sl) h3
    obtain⟨r2,q2⟩:=xys (id0:=((c.c hs).u,fc+j,y.dst.getD 0)) (sl:=sl) h4
    rw[q1,q2]
    unfold xpp
    split
    .rfl
    .rfl
    .rename_i e3 e4
     cases e3;cases e4
     simp[disj]
    .rename_i n1 n2 n3
     exact(n3 _ _ _ _ rfl rfl).elim
  .unfold ncPair at h2
   rw[x17o,x16y,x16y,x16y,x16y]at h2
   rcases h2 with ⟨⟨h3,h4⟩,h5⟩|⟨⟨h3,h4⟩,h5⟩
   .rw[x16u h3]
    unfold xrq
    rw[h4,xuu h5]
    simp only[x189,x19l,List.all_nil]
    exact meek12 (hm1 h3 h5)
   .have hx:xq2 x=false:=by simpa using h4
    rw[x16t (by rw[hx];simp),x16u h3]
    unfold xrq
    rw[hx,xuu h5]
    simp only[x175,x189]
    exact meek12 (hm2 h3 h5)
 .cases h
theorem xwu{f:Nat}{ops:Array Oper}{sl:Nat->AV}:∀{l:List Nat},xtk pol f ops sl l=true->∀j∈l,∃o,ops[j]?=some o/\1<=meek (nm (pol f (o.dst.getD 0))) o sl
 |[],_,j,hj=>by cases hj
 |a::l,h,j,hj=>by
  simp only[xtk,x16y]at h
  rcases x174.mp hj with rfl|hj
  .have h1:=h.1
   split at h1
   .rename_i o e
    rw[xwt]at h1
    exact⟨o,e,x18c h1⟩
   .cases h1
  .exact xwu h.2 j hj
theorem xyt{f u fc next0:Nat}{ops:Array Oper}{sl:Nat->AV}:∀{l:List (Nat×Nat)},xsk pol f u fc next0 ops sl l=true->∀p∈l,xvj pol f u fc next0 ops p.1 p.2 sl=true
 |[],_,p,hp=>by cases hp
 |(i,j)::l,h,p,hp=>by
  simp only[xsk,x16y]at h
  rcases x174.mp hp with rfl|hp
  .exact h.1
  .exact xyt h.2 p hp
theorem fdraw_ok{c:FCtx}{hs:Hs}{fc next0:Nat}{ops:Array Oper}{sl:Nat->AV}(h1:xvk ops=true)(h2:xtk pol c.f ops sl (meekL pol c.f ops)=true)(h3:xsk pol c.f c.u fc next0 ops sl (dynP pol c.f ops)=true) :
 xtg pol (c.c hs) fc next0 ops sl=true:=by
 unfold xtg
 unfold xvk at h1
 simp only at h1 ⊢
 rw[x16z]at h1 ⊢
 intro j hj
 have h1j:=h1 j hj
 rw[x16y,x16y]at h1j ⊢
 refine⟨h1j.1,?_⟩
 have h4:=h1j.2
 rw[x16z]at h4 ⊢
 intro i hi
 rw[x16y]
 refine⟨h4 i hi,?_⟩
 rw[x17o]
 by_cases hb:((befs ops).getD j []).contains i=true
 .exact Or.inl hb
 .right
  by_cases hsf:xu2 pol c.f ops i j=true
  .exact softP_ok hsf
  by_cases hf:xur ops i j=true
  .refine stFine_ok hf λx y e1 e2=>?_
   have hap:x.apart ops y=true:=by
    unfold xur at hf
    rw[e1,e2]at hf
    simp only[x16y]at hf
    exact hf.1
   have nsx:xqu y.op=true->softA pol c.f ops i=false:=λhy=>by
    rw[x17f]
    intro ha
    apply hsf
    unfold xu2
    rw[e1,e2]
    simp only[hap,xyr e1 ha hy,Bool.true_or,Bool.and_self]
   have nsy:xqu x.op=true->softA pol c.f ops j=false:=λhx=>by
    rw[x17f]
    intro ha
    apply hsf
    unfold xu2
    rw[e1,e2]
    simp only[hap,xyr e2 ha hx,Bool.or_true,Bool.and_self]
   have hij:i<j:=x17p.mp hi
   have hjn:j<ops.size:=x17p.mp hj
   have hbi:((befs ops).getD i []).contains j=false:=by
    have:=h1 i (x17p.mpr (by omega))
    rw[x16y,x16y]at this
    have h5:=this.1.2
    rw[x16z]at h5
    rw[x17f]
    intro hc
    have:=h5 j (List.contains_iff_mem.mp hc)
    have:=x18j this
    omega
   have hn:∀o,xq2 o=true->xqu o.op=true->False:=by
    intro o a b
    obtain⟨dst,op,type,pos,after,guard⟩:=o
    cases op with
    |call cl=>
     obtain⟨callee,args,argTypes⟩:=cl
     cases callee<;>simp[xq2,xqu]at a b
    |_=>simp[xq2]at a
   refine⟨λhx hy=>?_,λhy hx=>?_⟩
   .obtain⟨o,e3,e4⟩:=xwu h2 i (by
     unfold meekL
     rw[x17r]
     refine⟨?_,by rw[nsx hy];rfl⟩
     unfold xwo
     simp only[x17r,x17p]
     refine⟨by omega,?_⟩
     rw[x16y,e1]
     refine⟨hx,?_⟩
     rw[List.any_eq_true]
     refine⟨j,hj,?_⟩
     rw[e2]
     have hyc:xq2 y=false:=by
      rw[x17f];exact λe=>hn y e hy
     simp only[hyc,hy,hbi,x175,x189]
     simpa using hb)
    rw[e1]at e3;cases e3;exact e4
   .obtain⟨o,e3,e4⟩:=xwu h2 j (by
     unfold meekL
     rw[x17r]
     refine⟨?_,by rw[nsy hx];rfl⟩
     unfold xwo
     simp only[x17r,x17p]
     refine⟨by omega,?_⟩
     rw[x16y,e2]
     refine⟨hy,?_⟩
     rw[List.any_eq_true]
     refine⟨i,x17p.mpr (by omega),?_⟩
     rw[e1]
     have hxc:xq2 x=false:=by
      rw[x17f];exact λe=>hn x e hx
     simp only[hxc,hx,hbi,x175,x189,Bool.and_true]
     simpa using hb)
    rw[e2]at e3;cases e3;exact e4
  .refine x11l (xyt h3 (i,j) ?_)
   unfold dynP
   rw[x17r]
   refine⟨?_,by simpa using hsf⟩
   unfold xyj
   simp only[x180,x17v,x17r]
   refine⟨j,hj,i,⟨hi,?_⟩,rfl⟩
   simp only[x1a6]at hf hb
   simp only[hf,hb,Bool.or_self,x175]
theorem freg_ok(hc:xsy P pol call){c:FCtx}{A:Nat->Hs}(hm:Mono A)(hu:Under c.hs A){ops:Array Oper}{draw:Bool}{s:Fs}{k:Fs->Option R}{r:R}(h:fxReg P pol call c ops draw s k=some r):∃s',k s'=some r/\∃n,xri P pol (xq7 P pol n) (c.c (A n)) ops draw s.s=some s'.s:=by
 unfold fxReg at h
 obtain⟨s1,h1,h2,n,h3⟩:=frun_ok hc hm hu h
 cases draw with
 |false=>
  refine⟨{s1 with fc:=s.fc+ops.size},h1,n,?_⟩
  unfold xri
  rw[h3]
  rfl
 |true=>
  rw[cond_true]at h1
  cases hml:xth P ops with
  |true=>rw[hml]at h1;cases h1
  |false=>
  cases hd:xvk ops with
  |false=>rw[hml,hd]at h1;cases h1
  |true=>
   rw[hml,hd,x175,x189,cond_true]at h1
   have key:xtk pol c.f ops s1.sl (meekL pol c.f ops)=true->xsk pol c.f c.u s.fc s.m.next ops s1.sl (dynP pol c.f ops)=true->k {s1 with fc:=s.fc+ops.size}=some r->∃s',k s'=some r/\∃n,xri P pol (xq7 P pol n) (c.c (A n)) ops true s.s=some s'.s:=by
    intro a b e
    refine⟨_,e,n,?_⟩
    unfold xri
    rw[h3]
    simp only
    have hdr:xtg pol (c.c (A n)) s.s.fc s.s.st.next ops s1.s.sl=true:=fdraw_ok hd a b
    rw[hdr,hml]
    rfl
   split at h1
   .rename_i e1
    split at h1
    .rename_i e2
     exact key (by rw[e1];rfl) (by rw[e2];rfl) h1
    .rename_i p q e2
     cases hy:xsk pol c.f c.u s.fc s.m.next ops s1.sl (p::q)with
     |false=>rw[hy]at h1;cases h1
     |true=>rw[hy]at h1;exact key (by rw[e1];rfl) (by rw[e2];exact hy) h1
   .rename_i a b e1
    cases hy:(xtk pol c.f ops s1.sl (a::b)&&xsk pol c.f c.u s.fc s.m.next ops s1.sl (dynP pol c.f ops))with
    |false=>rw[hy]at h1;cases h1
    |true=>
     rw[hy]at h1
     rw[x16y]at hy
     exact key (by rw[e1];exact hy.1) hy.2 h1
end Go.Ix
