import Derived.Test.YtklcdahoajabmaaFxOps
set_option linter.unusedSimpArgs false
set_option linter.unusedVariables false
namespace Go.Ix
variable{P:Program}{pol:Pol}{call:xcw}{R:Type}
theorem shut1_get(h:Hp)(i j:Id):hget (shut1 h i) j=shut [i] (hget h) j:=by
 unfold shut1 shut
 by_cases hj:j=i
 .subst hj
  rw[xta (xww.mpr rfl)]
  cases e:hget h j with
  |none=>simp[e]
  |some o=>
   cases o with
   |map es=>simp[e]
   |lp d=>simp[e]
   |row cs v f=>
    cases f with
    |true=>simp[e]
    |false=>simp[xj7]
 .rw[xtb (by simpa using hj)]
  split
  .rw[xj7,xtb hj]
  .rfl
theorem xo0:∀(ids:List Id) (h:Hp),hget (xgr ids h)=shut ids (hget h)
 |[],h=>by funext i;simp[xgr,shut]
 |i::r,h=>by
  funext j
  rw[xgr,xo0 r]
  have h1:=shut1_get h i j
  unfold shut at h1 ⊢
  rw[h1]
  by_cases hj:j=i
  .subst hj
   simp only[xww,xtw,xtm,true_or]
   cases e:hget h j with
   |none=>simp
   |some o=>
    cases o with
    |map es=>simp
    |lp d=>simp
    |row cs v f=>simp
  .simp[hj]
theorem xo1(h':Hp):∀(ids:List Id) (h:Hp),(∀i∈ids,∃o,hget h' i=some o)->∀j,hget (keepH h' ids h) j=if j∈ids then hget h' j else hget h j
 |[],h,_,j=>by simp[keepH]
 |i::r,h,hi,j=>by
  obtain⟨o,ho⟩:=hi i (xtk ..)
  simp only[keepH,ho]
  rw[xo1 h' r _ λx hx=>hi x (xti _ hx)]
  simp only[xtm,xj7]
  by_cases hj:j∈r
  .simp[hj]
  .by_cases hji:j=i
   .subst hji;simp[hj,ho]
   .simp[hj,hji]
theorem row1_nil{h:Hp}{u:Nat}(hn:∀e∈h,e.1≠u):row1 h u=[]:=by
 induction h with
 |nil=>rfl
 |cons e r ih=>
  obtain⟨v,l⟩:=e
  simp only[row1]
  have:Nat.beq v u=false:=by
   rw[xu0];intro x;exact hn _ (xtk ..) (xtj x)
  rw[this]
  exact ih λe he=>hn e (xti _ he)
theorem xj9{p:Nat×List (Nat×Nat×Ob)->Bool}{u:Nat}{t:Hp}(ht:∀e∈t,e.1≠u):∀{h:Hp},(∀l,p (u,l)=true)->row1 (h.filter p++t) u=row1 h u
 |[],_=>row1_nil ht
 |(v,l)::r,hp=>by
  simp only[List.filter_cons]
  by_cases hv:v=u
  .subst hv
   rw[xta (hp l)]
   simp[row1]
  .have hb:Nat.beq v u=false:=by
    rw[xu0];intro x;exact hv (xtj x)
   split
   .simp only[xuy,row1,hb,cond_false];exact xj9 ht hp
   .simp only[row1,hb,cond_false];exact xj9 ht hp
theorem xo2{u:Nat}{t:Hp}:∀{h:Hp},(∀e∈h,e.1≠u)->row1 (h++t) u=row1 t u
 |[],_=>rfl
 |(v,l)::r,hn=>by
  have hb:Nat.beq v u=false:=by
   rw[xu0];intro x;exact hn _ (xtk ..) (xtj x)
  simp only[xuy,row1,hb,cond_false]
  exact xo2 λe he=>hn e (xti _ he)
theorem join_get(h' h:Hp)(n:Nat):hget ((h'.filter λe=>Nat.ble n e.1)++(h.filter λe=>Nat.blt e.1 n))=λi=>if n<=i.1 then hget h' i else hget h i:=by
 funext i
 unfold hget
 by_cases hi:n<=i.1
 .rw[xta hi,xj9]
  .intro e he
   rw[xtx]at he
   have:=xut he.2
   omega
  .intro l;exact xx2 hi
 .rw[xtb hi,xo2]
  .have:row1 (List.filter (λe=>e.fst.blt n) h++[]) i.1=row1 h i.1:=xj9 (λe he=>by cases he) (λl=>xx2 (by omega))
   rw[xwd]at this
   rw[this]
  .intro e he
   rw[xtx]at he
   have:=xut he.2
   omega
def Mono(A:Nat->Hs):Prop:=∀n m,n<=m->HLe (A n) (A m)
def Under(hs:FHs)(A:Nat->Hs):Prop:=∀id h,xga hs id=some h->∀args m m',h args m=some m'->∃n g,hsAt (A n) id=some g/\g args m.st=some m'.st
def Nil:Nat->Hs:=λ_=>[]
theorem Mono.nil:Mono Nil:=λ_ _ _=>trivial
theorem Under.nil:Under [] Nil:=λ_ _ h=>by simp[xga]at h
theorem Under.shift{hs:FHs}{A:Nat->Hs}(hm:Mono A)(h:Under hs A):Under hs λn=>A (n+1):=by
 intro id g hg args m m' e
 obtain⟨n,g',h1,h2⟩:=h id g hg args m m' e
 obtain⟨g2,h3,h4⟩:=xkc (hm n (n+1) (by omega)) h1
 exact⟨n,g2,h3,h4 _ _ _ h2⟩
def xgb(P:Program)(pol:Pol)(call:xcw):Prop:=∀hs A f args m r m',Mono A->Under hs A->call hs f args m=some (r,m')->∃n,xdo P pol n (A n) f args m.st=some (r,m'.st)
theorem callLe{n m:Nat}(h:n<=m):xgl (xdo P pol n) (xdo P pol m):=body_le (xeu h)
theorem fxInv_ok(hc:xgb P pol call){hs:FHs}{A:Nat->Hs}(hm:Mono A)(hu:Under hs A){mode:Nat}{fv:AV}{args:List AV}{m m':Mem}{r:AV}(h:xfi call hs mode fv args m=some (r,m')):∃n,xds (xdo P pol n) (A n) mode fv args m.st=some (r,m'.st):=by
 cases fv with
 |clo f caps=>
  simp only[xfi]at h
  split at h
  .unfold xcv at h
   split at h
   .rename_i l' e1
    split at h
    .rename_i r0 m0 e2
     rw[xtf]at h
     obtain⟨r1,h1,h2⟩:=h
     cases h2
     obtain⟨n,hn⟩:=hc _ _ _ _ _ _ _ Mono.nil Under.nil e2
     refine⟨n,?_⟩
     have e1':(args++caps).mapM (frz m.st.objs deep)=some l':=e1
     have hn':xdo P pol n [] f l' xf0=some (r0,m0.st):=hn
     have h1':frz m0.st.objs deep r0=some r:=h1
     simp only[xds,e1',hn',h1',Option.map_some]
     rw[show(Mem.mk (xgr ((args++caps).flatMap (xd1 m.get deep)) m.hp) m.next).st={m.st with objs:=shut ((args++caps).flatMap (xd1 m.st.objs deep)) m.st.objs}from by
      simp only[Mem.st,Mem.get]
      congr 1
      exact xo0 _ _]
    .cases h
   .cases h
  .unfold sCall3 at h
   split at h
   .rename_i l' e1
    split at h
    .rename_i r0 m0 e2
     split at h
     .rename_i e3
      cases h
      obtain⟨n,hn⟩:=hc _ _ _ _ _ _ _ Mono.nil Under.nil e2
      refine⟨n,?_⟩
      have e1':(args++caps).mapM (frz m.st.objs deep)=some l':=e1
      have hn':xdo P pol n [] f l' xf0=some (r,m0.st):=hn
      simp only[xds,e1',hn',xta e3]
     .cases h
    .cases h
   .cases h
  .unfold sCall4 at h
   split at h
   .rename_i l' e1
    split at h
    .rename_i r0 m0 e2
     split at h
     .rename_i e3
      cases h
      obtain⟨n,hn⟩:=hc _ _ _ _ _ _ _ Mono.nil Under.nil e2
      refine⟨n,?_⟩
      have e1':(args++caps).mapM (frz m.st.objs deep)=some l':=e1
      have hn':xdo P pol n [] f l' {objs:=λ_=>none,next:=m.next}=some (r,m0.st):=hn
      simp only[xds]
      rw[e1']
      simp only
      rw[show({objs:=λ_=>none,next:=m.st.next}:St)={objs:=λ_=>none,next:=m.next}from rfl,hn']
      simp only
      split
      case isFalse hno=>exact absurd e3 hno
      have hk:∀i∈xd1 m0.get deep r,∃o,hget m0.hp i=some o:=by
       intro j hj
       rw[xte]at e3
       have:=xtg.mp e3.2 j hj
       rw[xte]at this
       revert this
       show _/\(match hget m0.hp j with|some (.row cs _ false)=>cs.all isSc|_=>false)=true->_
       rintro⟨-,h4⟩
       cases e:hget m0.hp j with
       |none=>rw[e]at h4;cases h4
       |some o=>exact⟨o,rfl⟩
      congr 2
      simp only[Mem.st,Mem.get]
      congr 1
      funext i
      exact(xo1 _ _ _ hk i).symm
     .cases h
    .cases h
   .cases h
  .unfold sCall1 at h
   split at h
   .rename_i e1
    split at h
    .rename_i r0 m0 e2
     cases h
     obtain⟨n,hn⟩:=hc _ _ _ _ _ _ _ Mono.nil Under.nil e2
     refine⟨n,?_⟩
     have hn':xdo P pol n [] f (args++caps) {objs:=λ_=>none,next:=m.next}=some (r,m0.st):=hn
     simp only[xds,xta e1]
     rw[show({objs:=λ_=>none,next:=m.st.next}:St)={objs:=λ_=>none,next:=m.next}from rfl,hn']
     simp only[Mem.st]
     congr 2
     exact congrArg (St.mk · _) (join_get m0.hp m.hp m.next).symm
    .cases h
   .cases h
  .rename_i h0 h3 h4 h1
   obtain⟨n,hn⟩:=hc _ _ _ _ _ _ _ hm hu h
   refine⟨n,?_⟩
   have key:∀mode:Nat,(mode=0->False)->(mode=3->False)->(mode=4->False)->(mode=1->False)->xds (xdo P pol n) (A n) mode (.clo f caps) args m.st=xdo P pol n (A n) f (args++caps) m.st:=by
    intro mode a b c d
    unfold xds
    split<;>first|rfl|(exact(a rfl).elim)|(exact(b rfl).elim)|(exact(c rfl).elim)|(exact(d rfl).elim)|skip
    split<;>first|rfl|(exact(a rfl).elim)|(exact(b rfl).elim)|(exact(c rfl).elim)|(exact(d rfl).elim)|simp_all
    all_goals simp_all
   rw[key mode h0 h3 h4 h1]
   exact hn
 |yld id=>
  simp only[xfi]at h
  split at h
  .rename_i g e
   rw[xtf]at h
   obtain⟨m1,h1,h2⟩:=h
   cases h2
   obtain⟨n,g',h3,h4⟩:=hu _ _ e _ _ _ h1
   exact⟨n,by simp only[xds,h3,h4,Option.map_some];rfl⟩
  .cases h
 |_=>simp[xfi]at h
def FCtx.c(c:FCtx)(hs:Hs):Ctx:={f:=c.f,u:=c.u,nt:=c.nt,hs:=hs}
theorem xl4{ops:Array Oper}{o:Oper}{sl:Nat->AV}:xer ops o sl=xj3 ops o.guard sl:=by
 unfold xer xj3
 cases o.guard with
 |none=>rfl
 |some g=>
  obtain⟨j,w⟩:=g
  simp only
  cases(ops[j]?).bind (·.dst)with
  |none=>rfl
  |some t=>simp only[sW];rfl
theorem xl5{c:FCtx}{hs:Hs}{dst:Option Tmp}{v:AV}{s:Fs}{k:Fs->Option R}{r:R}(h:fput c.nt dst v s k=some r):∃s',put (c.c hs) dst v s.s=some s'.s/\k s'=some r/\s'.fc=s.fc/\s'.m=s.m:=by
 unfold fput at h
 split at h
 .rename_i d
  cases hd:Nat.blt d c.nt with
  |false=>rw[hd]at h;cases h
  |true=>
   rw[hd]at h
   exact⟨_,by simp only[put];rw[xta (show d<(c.c hs).nt from xut hd)];rfl,h,rfl,rfl⟩
 .exact⟨s,rfl,h,rfl,rfl⟩
theorem fop_ok(hc:xgb P pol call){c:FCtx}{A:Nat->Hs}(hm:Mono A)(hu:Under c.hs A){ops:Array Oper}{i:Nat}{o:Oper}(ho:ops[i]?=some o){s:Fs}{k:AV->Mem->Option R}{r:R}(h:fxOp P pol call c (c.u,s.fc+i,o.dst.getD 0) o s.sl s.m k=some r)(hw:xer ops o s.sl=true) :
 ∃v m',k v m'=some r/\∃n,∀s1,put (c.c (A n)) o.dst v {s with m:=m' }.s=some s1->xdr P pol (xdo P pol n) (c.c (A n)) ops i s.s=some s1:=by
 by_cases hn:xdh o=true
 .obtain⟨dst,op,type,pos,after,guard⟩:=o
  cases op with
  |call cl=>
   obtain⟨callee,args,argTypes⟩:=cl
   cases callee with
   |value fv=>
    simp only[fxOp]at h
    rw[xug]at h
    obtain⟨⟨v,m'⟩,h1,h2⟩:=h
    obtain⟨n,hn⟩:=fxInv_ok hc hm hu h1
    refine⟨v,m',h2,n,λs1 hp=>?_⟩
    unfold xdr
    rw[ho]
    simp only
    have hw':xer ops {dst:=dst,op:=Op.call {callee:=Callee.value fv,args:=args,argTypes:=argTypes},type:=type,pos:=pos,after:=after,guard:=guard} s.s.sl=true:=hw
    rw[xta hw']
    have hn':xds (xdo P pol n) (c.c (A n)).hs (pol (c.c (A n)).f (dst.getD 0)) (ev s.s.sl fv) (args.toList.map (ev s.s.sl)) s.s.st=some (v,m'.st):=hn
    rw[hn']
    exact hp
   |_=>simp[xdh]at hn
  |_=>simp[xdh]at hn
 .have hn':xdh o=false:=by simpa using hn
  obtain⟨v,m',h1,h2,h3⟩:=fxOp_ok hn' h
  refine⟨v,m',h3,0,λs1 hp=>?_⟩
  unfold xdr
  rw[ho]
  simp only
  have hw':xer ops o s.s.sl=true:=hw
  rw[xta hw']
  have h1':ixOp P ((c.c (A 0)).u,s.s.fc+i,o.dst.getD 0) o s.s.sl s.s.st.objs=some (v,m'.get):=h1
  have hp':put (c.c (A 0)) o.dst v {s.s with st:={s.s.st with objs:=m'.get}}=some s1:=by
   have:({s with m:=m' }:Fs).s={s.s with st:={s.s.st with objs:=m'.get}}:=by
    simp only[Fs.s,Mem.st,h2]
   rw[<-this];exact hp
  split
  .rename_i fv args at' e
   have:xdh o=true:=by simp only[xdh,e]
   rw[this]at hn';cases hn'
  .rw[h1']
   exact hp'
theorem fstep_ok(hc:xgb P pol call){c:FCtx}{A:Nat->Hs}(hm:Mono A)(hu:Under c.hs A){ops:Array Oper}{i:Nat}{s:Fs}{k:Fs->Option R}{r:R}(h:fxStep P pol call c ops i s k=some r):∃s',k s'=some r/\s'.fc=s.fc/\∃n,xdr P pol (xdo P pol n) (c.c (A n)) ops i s.s=some s'.s:=by
 unfold fxStep at h
 split at h
 .rename_i e
  exact⟨s,h,rfl,0,by unfold xdr;rw[e]⟩
 .rename_i o e
  split at h
  .rename_i hg
   obtain⟨v,m',h1,n,h2⟩:=fop_ok hc hm hu e h (by rw[xl4,hg];rfl)
   obtain⟨s',h3,h4,h5,h6⟩:=xl5 (hs:=A n) h1
   exact⟨s',h4,h5,n,h2 _ h3⟩
  .rename_i g hg
   rw[xug]at h
   obtain⟨⟨v,m'⟩,h1,h2⟩:=h
   cases hw:xj3 ops (some g) s.sl with
   |true=>
    rw[hw,cond_true]at h1
    obtain⟨v1,m1,h3,n,h4⟩:=fop_ok hc hm hu e h1 (by rw[xl4,hg];exact hw)
    cases h3
    obtain⟨s',h5,h6,h7,h8⟩:=xl5 (hs:=A n) h2
    exact⟨s',h6,h7,n,h4 _ h5⟩
   |false=>
    rw[hw,cond_false]at h1
    cases h1
    obtain⟨s',h5,h6,h7,h8⟩:=xl5 (hs:=A 0) h2
    refine⟨s',h6,h7,0,?_⟩
    unfold xdr
    rw[e]
    simp only
    rw[xtb (by rw[show s.s.sl=s.sl from rfl,xl4,hg,hw];simp)]
    exact h5
theorem frun_ok(hc:xgb P pol call){c:FCtx}{A:Nat->Hs}(hm:Mono A)(hu:Under c.hs A){ops:Array Oper}:∀{L:List Nat} {s:Fs} {k:Fs->Option R} {r:R},
 fxRun P pol call c ops L s k=some r->∃s',k s'=some r/\s'.fc=s.fc/\∃n,xdp P pol (xdo P pol n) (c.c (A n)) ops L s.s=some s'.s
 |[],s,k,r,h=>⟨s,h,rfl,0,rfl⟩
 |i::L,s,k,r,h=>by
  obtain⟨s1,h1,h2,n1,h3⟩:=fstep_ok hc hm hu h
  obtain⟨s2,h4,h5,n2,h6⟩:=frun_ok hc hm hu h1
  refine⟨s2,h4,h5.trans h2,max n1 n2,?_⟩
  have q1:=step_le (callLe (P:=P) (pol:=pol) (Nat.le_max_left n1 n2)) (hm n1 (max n1 n2) (Nat.le_max_left ..)) h3
  have q2:=run_le (callLe (P:=P) (pol:=pol) (Nat.le_max_right n1 n2)) (hm n2 (max n1 n2) (Nat.le_max_right ..)) h6
  simp only[xdp]
  have q1':xdr P pol (xdo P pol (max n1 n2)) (c.c (A (max n1 n2))) ops i s.s=some s1.s:=q1
  rw[q1']
  exact q2
theorem xl6{id0:Id}{o:Oper}{sl:Nat->AV}:tch id0 o sl=xd9 id0 o sl:=by
 obtain⟨dst,op,type,pos,after,guard⟩:=o
 unfold tch
 cases op with
 |load t a=>rfl
 |store t a x=>rfl
 |slice t x lo hi mx=>rfl
 |lookup t x ix ok=>rfl
 |call cl=>
  obtain⟨callee,args,argTypes⟩:=cl
  simp only
  split
  .rename_i s x e2
   simp only[xd9,e2];rfl
  .rename_i s x e2
   simp only[xd9,e2];rfl
  .rfl
 |_=>rfl
theorem xl7{mode:Nat}{o:Oper}{sl:Nat->AV}:mkO mode o sl=meek mode o sl:=by
 obtain⟨dst,op,type,pos,after,guard⟩:=o
 cases op with
 |call cl=>
  obtain⟨callee,args,argTypes⟩:=cl
  cases callee with
  |value fv=>rfl
  |_=>rfl
 |_=>rfl
theorem meek_le{mode:Nat}{o:Oper}{sl:Nat->AV}:meek mode o sl<=2:=by
 rw[<-xl7]
 unfold mkO mkD mkM
 split
 .split
  .split
   .split
    .omega
    .split<;>omega
   .omega
  .omega
 .omega
theorem cAp_ok{mode:Nat}{lim:Option Nat}{id0:Id}{x y:Oper}{sl:Nat->AV}(hy:xdh y=false)(h:cAp lim (tch id0 y sl) (mkO mode x sl)=true):xf1 mode lim id0 x y sl=true:=by
 unfold xf1
 rw[xl6,xl7]at h
 rw[hy]
 simp only[xv3,xv4]
 unfold cAp at h
 split at h
 .rename_i r ws e
  rw[e]
  simp only
  rw[xte]at h ⊢
  refine⟨?_,?_⟩
  .have h1:=h.1
   cases lim with
   |none=>rfl
   |some n=>
    simp only at h1 ⊢
    rw[xtg]at h1 ⊢
    intro i hi
    exact xtq (xut (h1 i hi))
  .have h2:=h.2
   rw[xul,xte]at h2 ⊢
   rcases h2 with h2|⟨h2,h3⟩
   .exact Or.inl (by rw[xtj h2];rfl)
   .exact Or.inr ⟨by rw[xtj h2];rfl,h3⟩
 .cases h
theorem xqr{c:FCtx}{hs:Hs}{fc next0:Nat}{ops:Array Oper}{i j:Nat}{sl:Nat->AV}(h:xj4 pol c.f c.u fc next0 ops i j sl=true):pairOK pol (c.c hs) fc next0 ops i j sl=true:=by
 unfold xj4 at h
 unfold pairOK
 split at h
 .rename_i x y e1 e2
  rw[e1,e2]
  simp only
  rw[xte]at h ⊢
  refine⟨h.1,?_⟩
  have h2:=h.2
  split at h2
  .rename_i hx
   rw[xta hx]
   rw[xte]at h2
   exact cAp_ok (by simpa using h2.1) h2.2
  .rename_i hx
   rw[xtb hx]
   split at h2
   .rename_i hy
    rw[xta hy]
    exact cAp_ok (by simpa using hx) h2
   .rename_i hy
    rw[xtb hy]
    rw[xl6,xl6]at h2
    exact h2
 .cases h
theorem xi6{id0:Id}{o:Oper}{sl:Nat->AV}(h:xeg o.op=true):xd9 id0 o sl=(some [],some []):=by
 obtain⟨dst,op,type,pos,after,guard⟩:=o
 cases op with
 |call cl=>
  obtain⟨callee,args,argTypes⟩:=cl
  cases callee with
  |builtin b=>cases b<;>first|rfl|(simp[xeg]at h)
  |_=>simp[xeg]at h
 |_=>first|rfl|(simp[xeg]at h)
theorem xo3{id0:Id}{o:Oper}{sl:Nat->AV}(h:wNone o.op=true):∃r,xd9 id0 o sl=(some r,some []):=by
 unfold wNone at h
 rw[xul]at h
 rcases h with h|h
 .exact⟨[],xi6 h⟩
 .obtain⟨dst,op,type,pos,after,guard⟩:=o
  cases op with
  |load t a=>simp only[xd9];split<;>exact⟨_,rfl⟩
  |slice t x lo hi mx=>simp only[xd9];split<;>exact⟨_,rfl⟩
  |lookup t x ix ok=>simp only[xd9];split<;>exact⟨_,rfl⟩
  |_=>simp at h
theorem stFine_ok{c:FCtx}{hs:Hs}{fc next0:Nat}{ops:Array Oper}{i j:Nat}{sl:Nat->AV}(h:xj5 ops i j=true)(hmk:∀x y,ops[i]?=some x->ops[j]?=some y->(xdh x=true->xeg y.op=true->1<=meek (pol c.f (x.dst.getD 0)) x sl)/\(xdh y=true->xeg x.op=true->1<=meek (pol c.f (y.dst.getD 0)) y sl)) :
 pairOK pol (c.c hs) fc next0 ops i j sl=true:=by
 unfold xj5 at h
 unfold pairOK
 split at h
 .rename_i x y e1 e2
  obtain⟨hm1,hm2⟩:=hmk x y e1 e2
  rw[e1,e2]
  simp only
  rw[xte]at h ⊢
  refine⟨h.1,?_⟩
  have meek12:∀{mode:Nat} {x:Oper},1<=meek mode x sl->(meek mode x sl == 2||(meek mode x sl == 1&&([]:List Id).isEmpty))=true:=by
   intro mode x h1
   have:=meek_le (mode:=mode) (o:=x) (sl:=sl)
   have:meek mode x sl=1\/meek mode x sl=2:=by omega
   rcases this with e|e<;>rw[e]<;>rfl
  have h2:=h.2
  rw[xul]at h2
  rcases h2 with h2|h2
  .rw[xte,xte]at h2
   obtain⟨⟨hx,hy⟩,h3⟩:=h2
   rw[xtb (by simpa using hx),xtb (by simpa using hy)]
   rw[xul,xul,xte]at h3
   rcases h3 with (h3|h3)|⟨h3,h4⟩
   .rw[xi6 h3];rfl
   .rw[xi6 h3];unfold xdb;split<;>simp_all
   .obtain⟨r1,q1⟩:=xo3 (id0:=((c.c hs).u,fc+i,x.dst.getD 0)) (sl:=sl) h3
    obtain⟨r2,q2⟩:=xo3 (id0:=((c.c hs).u,fc+j,y.dst.getD 0)) (sl:=sl) h4
    rw[q1,q2]
    unfold xdb
    split
    .rfl
    .rfl
    .rename_i e3 e4
     cases e3;cases e4
     simp[disj]
    .rename_i n1 n2 n3
     exact(n3 _ _ _ _ rfl rfl).elim
  .unfold ncPair at h2
   rw[xul,xte,xte,xte,xte]at h2
   rcases h2 with ⟨⟨h3,h4⟩,h5⟩|⟨⟨h3,h4⟩,h5⟩
   .rw[xta h3]
    unfold xf1
    rw[h4,xi6 h5]
    simp only[xv4,xwd,List.all_nil]
    exact meek12 (hm1 h3 h5)
   .have hx:xdh x=false:=by simpa using h4
    rw[xtb (by rw[hx];simp),xta h3]
    unfold xf1
    rw[hx,xi6 h5]
    simp only[xv3,xv4]
    exact meek12 (hm2 h3 h5)
 .cases h
theorem xl8{f:Nat}{ops:Array Oper}{sl:Nat->AV}:∀{l:List Nat},xgs pol f ops sl l=true->∀j∈l,∃o,ops[j]?=some o/\1<=meek (pol f (o.dst.getD 0)) o sl
 |[],_,j,hj=>by cases hj
 |a::l,h,j,hj=>by
  simp only[xgs,xte]at h
  rcases xtm.mp hj with rfl|hj
  .have h1:=h.1
   split at h1
   .rename_i o e
    rw[xl7]at h1
    exact⟨o,e,xut h1⟩
   .cases h1
  .exact xl8 h.2 j hj
theorem xo4{f u fc next0:Nat}{ops:Array Oper}{sl:Nat->AV}:∀{l:List (Nat×Nat)},xfv pol f u fc next0 ops sl l=true->∀p∈l,xj4 pol f u fc next0 ops p.1 p.2 sl=true
 |[],_,p,hp=>by cases hp
 |(i,j)::l,h,p,hp=>by
  simp only[xfv,xte]at h
  rcases xtm.mp hp with rfl|hp
  .exact h.1
  .exact xo4 h.2 p hp
theorem fdraw_ok{c:FCtx}{hs:Hs}{fc next0:Nat}{ops:Array Oper}{sl:Nat->AV}(h1:xj6 ops=true)(h2:xgs pol c.f ops sl (xi3 ops)=true)(h3:xfv pol c.f c.u fc next0 ops sl (xh9 ops)=true) :
 xgj pol (c.c hs) fc next0 ops sl=true:=by
 unfold xgj
 unfold xj6 at h1
 simp only at h1 ⊢
 rw[xtg]at h1 ⊢
 intro j hj
 have h1j:=h1 j hj
 rw[xte,xte]at h1j ⊢
 refine⟨h1j.1,?_⟩
 have h4:=h1j.2
 rw[xtg]at h4 ⊢
 intro i hi
 rw[xte]
 refine⟨h4 i hi,?_⟩
 rw[xul]
 by_cases hb:((befs ops).getD j []).contains i=true
 .exact Or.inl hb
 .right
  by_cases hf:xj5 ops i j=true
  .refine stFine_ok hf λx y e1 e2=>?_
   have hij:i<j:=xts.mp hi
   have hjn:j<ops.size:=xts.mp hj
   have hbi:((befs ops).getD i []).contains j=false:=by
    have:=h1 i (xts.mpr (by omega))
    rw[xte,xte]at this
    have h5:=this.1.2
    rw[xtg]at h5
    rw[xu0]
    intro hc
    have:=h5 j (List.contains_iff_mem.mp hc)
    have:=xuu this
    omega
   have hn:∀o,xdh o=true->xeg o.op=true->False:=by
    intro o a b
    obtain⟨dst,op,type,pos,after,guard⟩:=o
    cases op with
    |call cl=>
     obtain⟨callee,args,argTypes⟩:=cl
     cases callee<;>simp[xdh,xeg]at a b
    |_=>simp[xdh]at a
   refine⟨λhx hy=>?_,λhy hx=>?_⟩
   .obtain⟨o,e3,e4⟩:=xl8 h2 i (by
     unfold xi3
     simp only[xtx,xts]
     refine⟨by omega,?_⟩
     rw[xte,e1]
     refine⟨hx,?_⟩
     rw[List.any_eq_true]
     refine⟨j,hj,?_⟩
     rw[e2]
     have hyc:xdh y=false:=by
      rw[xu0];exact λe=>hn y e hy
     simp only[hyc,hy,hbi,xv3,xv4]
     simpa using hb)
    rw[e1]at e3;cases e3;exact e4
   .obtain⟨o,e3,e4⟩:=xl8 h2 j (by
     unfold xi3
     simp only[xtx,xts]
     refine⟨by omega,?_⟩
     rw[xte,e2]
     refine⟨hy,?_⟩
     rw[List.any_eq_true]
     refine⟨i,xts.mpr (by omega),?_⟩
     rw[e1]
     have hxc:xdh x=false:=by
      rw[xu0];exact λe=>hn x e hx
     simp only[hxc,hx,hbi,xv3,xv4,Bool.and_true]
     simpa using hb)
    rw[e2]at e3;cases e3;exact e4
  .refine xqr (xo4 h3 (i,j) ?_)
   unfold xh9
   simp only[xuo,xtz,xtx]
   refine⟨j,hj,i,⟨hi,?_⟩,rfl⟩
   simp only[xx1]at hf hb
   simp only[hf,hb,Bool.or_self,xv3]
theorem freg_ok(hc:xgb P pol call){c:FCtx}{A:Nat->Hs}(hm:Mono A)(hu:Under c.hs A){ops:Array Oper}{draw:Bool}{s:Fs}{k:Fs->Option R}{r:R}(h:fxReg P pol call c ops draw s k=some r):∃s',k s'=some r/\∃n,xes P pol (xdo P pol n) (c.c (A n)) ops draw s.s=some s'.s:=by
 unfold fxReg at h
 obtain⟨s1,h1,h2,n,h3⟩:=frun_ok hc hm hu h
 cases draw with
 |false=>
  refine⟨{s1 with fc:=s.fc+ops.size},h1,n,?_⟩
  unfold xes
  rw[h3]
  rfl
 |true=>
  rw[cond_true]at h1
  cases hml:xgk P ops with
  |true=>rw[hml]at h1;cases h1
  |false=>
  cases hd:xj6 ops with
  |false=>rw[hml,hd]at h1;cases h1
  |true=>
   rw[hml,hd,xv3,xv4,cond_true]at h1
   have key:xgs pol c.f ops s1.sl (xi3 ops)=true->xfv pol c.f c.u s.fc s.m.next ops s1.sl (xh9 ops)=true->k {s1 with fc:=s.fc+ops.size}=some r->∃s',k s'=some r/\∃n,xes P pol (xdo P pol n) (c.c (A n)) ops true s.s=some s'.s:=by
    intro a b e
    refine⟨_,e,n,?_⟩
    unfold xes
    rw[h3]
    simp only
    have hdr:xgj pol (c.c (A n)) s.s.fc s.s.st.next ops s1.s.sl=true:=fdraw_ok hd a b
    rw[hdr,hml]
    rfl
   split at h1
   .rename_i e1
    split at h1
    .rename_i e2
     exact key (by rw[e1];rfl) (by rw[e2];rfl) h1
    .rename_i p q e2
     cases hy:xfv pol c.f c.u s.fc s.m.next ops s1.sl (p::q)with
     |false=>rw[hy]at h1;cases h1
     |true=>rw[hy]at h1;exact key (by rw[e1];rfl) (by rw[e2];exact hy) h1
   .rename_i a b e1
    cases hy:(xgs pol c.f ops s1.sl (a::b)&&xfv pol c.f c.u s.fc s.m.next ops s1.sl (xh9 ops))with
    |false=>rw[hy]at h1;cases h1
    |true=>
     rw[hy]at h1
     rw[xte]at hy
     exact key (by rw[e1];exact hy.1) hy.2 h1
end Go.Ix
