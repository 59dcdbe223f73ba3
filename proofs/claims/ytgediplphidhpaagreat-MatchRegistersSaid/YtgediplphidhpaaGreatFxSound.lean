import Derived.Test.YtgediplphidhpaaGreatFxOps
set_option linter.unusedSimpArgs false
set_option linter.unusedVariables false
namespace Go.Ix
variable{P:Program}{pol:Pol}{call:xnv}{R:Type}
theorem shut1_get(h:Hp)(i j:Id):hget (shut1 h i) j=shut [i] (hget h) j:=by
 unfold shut1 shut
 by_cases hj:j=i
 .subst hj
  rw[if_pos (x1cr.mpr rfl)]
  cases e:hget h j with
  |none=>simp[e]
  |some o=>
   cases o with
   |map es=>simp[e]
   |lp d=>simp[e]
   |row cs v f=>
    cases f with
    |true=>simp[e]
    |false=>simp[xwn]
 .rw[if_neg (by simpa using hj)]
  split
  .rw[xwn,if_neg hj]
  .rfl
theorem xwp:∀(ids:List Id) (h:Hp),hget (xrp ids h)=shut ids (hget h)
 |[],h=>by funext i;simp[xrp,shut]
 |i::r,h=>by
  funext j
  rw[xrp,xwp r]
  have h1:=shut1_get h i j
  unfold shut at h1 ⊢
  rw[h1]
  by_cases hj:j=i
  .subst hj
   simp only[x1cr,x19o,x19a,true_or]
   cases e:hget h j with
   |none=>simp
   |some o=>
    cases o with
    |map es=>simp
    |lp d=>simp
    |row cs v f=>simp
  .simp[hj]
theorem x128(h':Hp):∀(ids:List Id) (h:Hp),(∀i∈ids,∃o,hget h' i=some o)->∀j,hget (keepH h' ids h) j=if j∈ids then hget h' j else hget h j
 |[],h,_,j=>by simp[keepH]
 |i::r,h,hi,j=>by
  obtain⟨o,ho⟩:=hi i (x199 ..)
  simp only[keepH,ho]
  rw[x128 h' r _ λx hx=>hi x (x198 _ hx)]
  simp only[x19a,xwn]
  by_cases hj:j∈r
  .simp[hj]
  .by_cases hji:j=i
   .subst hji;simp[hj,ho]
   .simp[hj,hji]
theorem row1_nil{h:Hp}{u:Nat}(hn:∀e∈h,e.1≠u):row1 h u=[]:=by
 induction h with
 |nil=>rfl
 |cons e r ih=>
  obtain⟨v,l⟩:=e
  simp only[row1]
  have:Nat.beq v u=false:=by
   rw[x19y];intro x;exact hn _ (x199 ..) (x19c x)
  rw[this]
  exact ih λe he=>hn e (x198 _ he)
theorem xwq{p:Nat×List (Nat×Nat×Ob)->Bool}{u:Nat}{t:Hp}(ht:∀e∈t,e.1≠u):∀{h:Hp},(∀l,p (u,l)=true)->row1 (h.filter p++t) u=row1 h u
 |[],_=>row1_nil ht
 |(v,l)::r,hp=>by
  simp only[List.filter_cons]
  by_cases hv:v=u
  .subst hv
   rw[if_pos (hp l)]
   simp[row1]
  .have hb:Nat.beq v u=false:=by
    rw[x19y];intro x;exact hv (x19c x)
   split
   .simp only[x1ad,row1,hb,cond_false];exact xwq ht hp
   .simp only[row1,hb,cond_false];exact xwq ht hp
theorem x129{u:Nat}{t:Hp}:∀{h:Hp},(∀e∈h,e.1≠u)->row1 (h++t) u=row1 t u
 |[],_=>rfl
 |(v,l)::r,hn=>by
  have hb:Nat.beq v u=false:=by
   rw[x19y];intro x;exact hn _ (x199 ..) (x19c x)
  simp only[x1ad,row1,hb,cond_false]
  exact x129 λe he=>hn e (x198 _ he)
theorem join_get(h' h:Hp)(n:Nat):hget ((h'.filter λe=>Nat.ble n e.1)++(h.filter λe=>Nat.blt e.1 n))=λi=>if n<=i.1 then hget h' i else hget h i:=by
 funext i
 unfold hget
 by_cases hi:n<=i.1
 .rw[if_pos hi,xwq]
  .intro e he
   rw[x19n]at he
   have:=x1au he.2
   omega
  .intro l;exact x1dj hi
 .rw[if_neg hi,x129]
  .have:row1 (List.filter (λe=>e.fst.blt n) h++[]) i.1=row1 h i.1:=xwq (λe he=>by cases he) (λl=>x1dj (by omega))
   rw[x1b9]at this
   rw[this]
  .intro e he
   rw[x19n]at he
   have:=x1au he.2
   omega
def Mono(A:Nat->Hs):Prop:=∀n m,n<=m->HLe (A n) (A m)
def Under(hs:FHs)(A:Nat->Hs):Prop:=∀id h,xst hs id=some h->∀args m m',h args m=some m'->∃n g,hsAt (A n) id=some g/\g args m.st=some m'.st
def Nil:Nat->Hs:=λ_=>[]
theorem Mono.nil:Mono Nil:=λ_ _ _=>trivial
theorem Under.nil:Under [] Nil:=λ_ _ h=>by simp[xst]at h
theorem Under.shift{hs:FHs}{A:Nat->Hs}(hm:Mono A)(h:Under hs A):Under hs λn=>A (n+1):=by
 intro id g hg args m m' e
 obtain⟨n,g',h1,h2⟩:=h id g hg args m m' e
 obtain⟨g2,h3,h4⟩:=xy3 (hm n (n+1) (by omega)) h1
 exact⟨n,g2,h3,h4 _ _ _ h2⟩
def xsv(P:Program)(pol:Pol)(call:xnv):Prop:=∀hs A f args m r m',Mono A->Under hs A->call hs f args m=some (r,m')->∃n,xp0 P pol n (A n) f args m.st=some (r,m'.st)
theorem callLe{n m:Nat}(h:n<=m):xt7 (xp0 P pol n) (xp0 P pol m):=body_le (xqo h)
theorem x12a(hc:xsv P pol call){hs:FHs}{A:Nat->Hs}(hm:Mono A)(hu:Under hs A){mode:Nat}{fv:AV}{args:List AV}{m m':Mem}{r:AV}(h:xqa call hs mode fv args m=some (r,m')):∃n,xow (xp0 P pol n) (A n) mode fv args m.st=some (r,m'.st):=by
 cases fv with
 |clo f caps=>
  simp only[xqa]at h
  split at h
  .unfold xnu at h
   split at h
   .rename_i l' e1
    split at h
    .rename_i r0 m0 e2
     rw[x194]at h
     obtain⟨r1,h1,h2⟩:=h
     cases h2
     obtain⟨n,hn⟩:=hc _ _ _ _ _ _ _ Mono.nil Under.nil e2
     refine⟨n,?_⟩
     have e1':(args++caps).mapM (frz m.st.objs deep)=some l':=e1
     have hn':xp0 P pol n [] f l' xqf=some (r0,m0.st):=hn
     have h1':frz m0.st.objs deep r0=some r:=h1
     simp only[xow,e1',hn',h1',Option.map_some]
     rw[show(Mem.mk (xrp ((args++caps).flatMap (xo2 m.get deep)) m.hp) m.next).st={m.st with objs:=shut ((args++caps).flatMap (xo2 m.st.objs deep)) m.st.objs}from by
      simp only[Mem.st,Mem.get]
      congr 1
      exact xwp _ _]
    .cases h
   .cases h
  .unfold sCall3 at h
   split at h
   .rename_i l' e1
    split at h
    .rename_i r0 m0 e2
     split at h
     .rename_i e3
      cases h
      obtain⟨n,hn⟩:=hc _ _ _ _ _ _ _ Mono.nil Under.nil e2
      refine⟨n,?_⟩
      have e1':(args++caps).mapM (frz m.st.objs deep)=some l':=e1
      have hn':xp0 P pol n [] f l' xqf=some (r,m0.st):=hn
      simp only[xow,e1',hn',if_pos e3]
     .cases h
    .cases h
   .cases h
  .unfold sCall4 at h
   split at h
   .rename_i l' e1
    split at h
    .rename_i r0 m0 e2
     split at h
     .rename_i e3
      cases h
      obtain⟨n,hn⟩:=hc _ _ _ _ _ _ _ Mono.nil Under.nil e2
      refine⟨n,?_⟩
      have e1':(args++caps).mapM (frz m.st.objs deep)=some l':=e1
      have hn':xp0 P pol n [] f l' {objs:=λ_=>none,next:=m.next}=some (r,m0.st):=hn
      simp only[xow]
      rw[e1']
      simp only
      rw[show({objs:=λ_=>none,next:=m.st.next}:St)={objs:=λ_=>none,next:=m.next}from rfl,hn']
      simp only
      split
      case isFalse hno=>exact absurd e3 hno
      have hk:∀i∈xo2 m0.get deep r,∃o,hget m0.hp i=some o:=by
       intro j hj
       rw[x195]at e3
       have:=x197.mp e3.2 j hj
       rw[x195]at this
       revert this
       show _/\(match hget m0.hp j with|some (.row cs _ false)=>cs.all isSc|_=>false)=true->_
       rintro⟨-,h4⟩
       cases e:hget m0.hp j with
       |none=>rw[e]at h4;cases h4
       |some o=>exact⟨o,rfl⟩
      congr 2
      simp only[Mem.st,Mem.get]
      congr 1
      funext i
      exact(x128 _ _ _ hk i).symm
     .cases h
    .cases h
   .cases h
  .unfold sCall1 at h
   split at h
   .rename_i e1
    split at h
    .rename_i r0 m0 e2
     cases h
     obtain⟨n,hn⟩:=hc _ _ _ _ _ _ _ Mono.nil Under.nil e2
     refine⟨n,?_⟩
     have hn':xp0 P pol n [] f (args++caps) {objs:=λ_=>none,next:=m.next}=some (r,m0.st):=hn
     simp only[xow,if_pos e1]
     rw[show({objs:=λ_=>none,next:=m.st.next}:St)={objs:=λ_=>none,next:=m.next}from rfl,hn']
     simp only[Mem.st]
     congr 2
     exact congrArg (St.mk · _) (join_get m0.hp m.hp m.next).symm
    .cases h
   .cases h
  .rename_i h0 h3 h4 h1
   obtain⟨n,hn⟩:=hc _ _ _ _ _ _ _ hm hu h
   refine⟨n,?_⟩
   have key:∀mode:Nat,(mode=0->False)->(mode=3->False)->(mode=4->False)->(mode=1->False)->xow (xp0 P pol n) (A n) mode (.clo f caps) args m.st=xp0 P pol n (A n) f (args++caps) m.st:=by
    intro mode a b c d
    unfold xow
    split<;>first|rfl|(exact(a rfl).elim)|(exact(b rfl).elim)|(exact(c rfl).elim)|(exact(d rfl).elim)|skip
    split<;>first|rfl|(exact(a rfl).elim)|(exact(b rfl).elim)|(exact(c rfl).elim)|(exact(d rfl).elim)|simp_all
    all_goals simp_all
   rw[key mode h0 h3 h4 h1]
   exact hn
 |yld id=>
  simp only[xqa]at h
  split at h
  .rename_i g e
   rw[x194]at h
   obtain⟨m1,h1,h2⟩:=h
   cases h2
   obtain⟨n,g',h3,h4⟩:=hu _ _ e _ _ _ h1
   exact⟨n,by simp only[xow,h3,h4,Option.map_some];rfl⟩
  .cases h
 |_=>simp[xqa]at h
def FCtx.c(c:FCtx)(hs:Hs):Ctx:={f:=c.f,u:=c.u,nt:=c.nt,hs:=hs}
theorem xyz{ops:Array Oper}{o:Oper}{sl:Nat->AV}:xq0 ops o sl=xwk ops o.guard sl:=by
 unfold xq0 xwk
 cases o.guard with
 |none=>rfl
 |some g=>
  obtain⟨j,w⟩:=g
  simp only
  cases(ops[j]?).bind (·.dst)with
  |none=>rfl
  |some t=>simp only[sW];rfl
theorem xz0{c:FCtx}{hs:Hs}{dst:Option Tmp}{v:AV}{s:Fs}{k:Fs->Option R}{r:R}(h:fput c.nt dst v s k=some r):∃s',put (c.c hs) dst v s.s=some s'.s/\k s'=some r/\s'.fc=s.fc/\s'.m=s.m:=by
 unfold fput at h
 split at h
 .rename_i d
  cases hd:Nat.blt d c.nt with
  |false=>rw[hd]at h;cases h
  |true=>
   rw[hd]at h
   exact⟨_,by simp only[put];rw[if_pos (show d<(c.c hs).nt from x1au hd)];rfl,h,rfl,rfl⟩
 .exact⟨s,rfl,h,rfl,rfl⟩
theorem fop_ok(hc:xsv P pol call){c:FCtx}{A:Nat->Hs}(hm:Mono A)(hu:Under c.hs A){ops:Array Oper}{i:Nat}{o:Oper}(ho:ops[i]?=some o){s:Fs}{k:AV->Mem->Option R}{r:R}(h:fxOp P pol call c (c.u,s.fc+i,o.dst.getD 0) o s.sl s.m k=some r)(hw:xq0 ops o s.sl=true) :
 ∃v m',k v m'=some r/\∃n,∀s1,put (c.c (A n)) o.dst v {s with m:=m' }.s=some s1->xp9 P pol (xp0 P pol n) (c.c (A n)) ops i s.s=some s1:=by
 by_cases hn:xox o=true
 .obtain⟨dst,op,type,pos,after,guard⟩:=o
  cases op with
  |call cl=>
   obtain⟨callee,args,argTypes⟩:=cl
   cases callee with
   |value fv=>
    simp only[fxOp]at h
    rw[x1af]at h
    obtain⟨⟨v,m'⟩,h1,h2⟩:=h
    obtain⟨n,hn⟩:=x12a hc hm hu h1
    refine⟨v,m',h2,n,λs1 hp=>?_⟩
    unfold xp9
    rw[ho]
    simp only
    have hw':xq0 ops {dst:=dst,op:=Op.call {callee:=Callee.value fv,args:=args,argTypes:=argTypes},type:=type,pos:=pos,after:=after,guard:=guard} s.s.sl=true:=hw
    rw[if_pos hw']
    have hn':xow (xp0 P pol n) (c.c (A n)).hs (nm (pol (c.c (A n)).f (dst.getD 0))) (ev s.s.sl fv) (args.toList.map (ev s.s.sl)) s.s.st=some (v,m'.st):=hn
    rw[hn']
    exact hp
   |_=>simp[xox]at hn
  |_=>simp[xox]at hn
 .have hn':xox o=false:=by simpa using hn
  by_cases hi:∃rv name args at',o.op=.call ⟨.invoke rv name,args,at'⟩
  .obtain⟨rv,name,args,at',hop⟩:=hi
   obtain⟨dst,op,type,pos,after,guard⟩:=o
   simp only at hop
   subst hop
   simp only[fxOp,fxMeth]at h
   rw[x1af]at h
   obtain⟨⟨v,m'⟩,h1,h2⟩:=h
   rw[x1af]at h1
   obtain⟨p,hp,h1⟩:=h1
   obtain⟨n,hn⟩:=x12a hc hm hu h1
   refine⟨v,m',h2,n,λs1 hp1=>?_⟩
   unfold xp9
   rw[ho]
   simp only
   have hw':xq0 ops {dst:=dst,op:=Op.call {callee:=Callee.invoke rv name,args:=args,argTypes:=at' },type:=type,pos:=pos,after:=after,guard:=guard} s.s.sl=true:=hw
   rw[if_pos hw']
   have hn':xow (xp0 P pol n) (c.c (A n)).hs (nm (pol (c.c (A n)).f (dst.getD 0))) (.clo p.1 []) (p.2::args.toList.map (ev s.s.sl)) s.s.st=some (v,m'.st):=hn
   have hp':xu3 P (ev s.s.sl rv) name=some p:=hp
   simp only[hp',hn']
   exact hp1
  obtain⟨v,m',h1,h2,h3⟩:=fxOp_ok hn' (λrv name args at' e=>hi ⟨rv,name,args,at',e⟩) h
  refine⟨v,m',h3,0,λs1 hp=>?_⟩
  unfold xp9
  rw[ho]
  simp only
  have hw':xq0 ops o s.s.sl=true:=hw
  rw[if_pos hw']
  have h1':ixOp P ((c.c (A 0)).u,s.s.fc+i,o.dst.getD 0) o s.s.sl s.s.st.objs=some (v,m'.get):=h1
  have hp':put (c.c (A 0)) o.dst v {s.s with st:={s.s.st with objs:=m'.get}}=some s1:=by
   have:({s with m:=m' }:Fs).s={s.s with st:={s.s.st with objs:=m'.get}}:=by
    simp only[Fs.s,Mem.st,h2]
   rw[<-this];exact hp
  split
  .rename_i fv args at' e
   have:xox o=true:=by simp only[xox,e]
   rw[this]at hn';cases hn'
  .rename_i rv name args at' e
   exact absurd ⟨rv,name,args,at',e⟩ hi
  .rw[h1']
   exact hp'
theorem fstep_ok(hc:xsv P pol call){c:FCtx}{A:Nat->Hs}(hm:Mono A)(hu:Under c.hs A){ops:Array Oper}{i:Nat}{s:Fs}{k:Fs->Option R}{r:R}(h:fxStep P pol call c ops i s k=some r):∃s',k s'=some r/\s'.fc=s.fc/\∃n,xp9 P pol (xp0 P pol n) (c.c (A n)) ops i s.s=some s'.s:=by
 unfold fxStep at h
 split at h
 .rename_i e
  exact⟨s,h,rfl,0,by unfold xp9;rw[e]⟩
 .rename_i o e
  split at h
  .rename_i hg
   obtain⟨v,m',h1,n,h2⟩:=fop_ok hc hm hu e h (by rw[xyz,hg];rfl)
   obtain⟨s',h3,h4,h5,h6⟩:=xz0 (hs:=A n) h1
   exact⟨s',h4,h5,n,h2 _ h3⟩
  .rename_i g hg
   rw[x1af]at h
   obtain⟨⟨v,m'⟩,h1,h2⟩:=h
   cases hw:xwk ops (some g) s.sl with
   |true=>
    rw[hw,cond_true]at h1
    obtain⟨v1,m1,h3,n,h4⟩:=fop_ok hc hm hu e h1 (by rw[xyz,hg];exact hw)
    cases h3
    obtain⟨s',h5,h6,h7,h8⟩:=xz0 (hs:=A n) h2
    exact⟨s',h6,h7,n,h4 _ h5⟩
   |false=>
    rw[hw,cond_false]at h1
    cases h1
    obtain⟨s',h5,h6,h7,h8⟩:=xz0 (hs:=A 0) h2
    refine⟨s',h6,h7,0,?_⟩
    unfold xp9
    rw[e]
    simp only
    rw[if_neg (by rw[show s.s.sl=s.sl from rfl,xyz,hg,hw];simp)]
    exact h5
theorem frun_ok(hc:xsv P pol call){c:FCtx}{A:Nat->Hs}(hm:Mono A)(hu:Under c.hs A){ops:Array Oper}:∀{L:List Nat} {s:Fs} {k:Fs->Option R} {r:R},
 fxRun P pol call c ops L s k=some r->∃s',k s'=some r/\s'.fc=s.fc/\∃n,xp7 P pol (xp0 P pol n) (c.c (A n)) ops L s.s=some s'.s
 |[],s,k,r,h=>⟨s,h,rfl,0,rfl⟩
 |i::L,s,k,r,h=>by
  obtain⟨s1,h1,h2,n1,h3⟩:=fstep_ok hc hm hu h
  obtain⟨s2,h4,h5,n2,h6⟩:=frun_ok hc hm hu h1
  refine⟨s2,h4,h5.trans h2,max n1 n2,?_⟩
  have q1:=step_le (callLe (P:=P) (pol:=pol) (Nat.le_max_left n1 n2)) (hm n1 (max n1 n2) (Nat.le_max_left ..)) h3
  have q2:=run_le (callLe (P:=P) (pol:=pol) (Nat.le_max_right n1 n2)) (hm n2 (max n1 n2) (Nat.le_max_right ..)) h6
  simp only[xp7]
  have q1':xp9 P pol (xp0 P pol (max n1 n2)) (c.c (A (max n1 n2))) ops i s.s=some s1.s:=q1
  rw[q1']
  exact q2
theorem xz1{id0:Id}{o:Oper}{sl:Nat->AV}:tch id0 o sl=xoh id0 o sl:=by
 obtain⟨dst,op,type,pos,after,guard⟩:=o
 unfold tch
 cases op with
 |load t a=>rfl
 |store t a x=>rfl
 |slice t x lo hi mx=>rfl
 |lookup t x ix ok=>rfl
 |call cl=>
  obtain⟨callee,args,argTypes⟩:=cl
  simp only
  split
  .rename_i s x e2
   simp only[xoh,e2];rfl
  .rename_i s x e2
   simp only[xoh,e2];rfl
  .rfl
 |_=>rfl
theorem xz2{mode:Nat}{o:Oper}{sl:Nat->AV}:mkO mode o sl=meek mode o sl:=by
 obtain⟨dst,op,type,pos,after,guard⟩:=o
 cases op with
 |call cl=>
  obtain⟨callee,args,argTypes⟩:=cl
  cases callee with
  |value fv=>rfl
  |_=>rfl
 |_=>rfl
theorem meek_le{mode:Nat}{o:Oper}{sl:Nat->AV}:meek mode o sl<=2:=by
 rw[<-xz2]
 unfold mkO mkD mkM
 split
 .split
  .split
   .split
    .omega
    .split<;>omega
   .omega
  .omega
 .omega
theorem cAp_ok{mode:Nat}{lim:Option Nat}{id0:Id}{x y:Oper}{sl:Nat->AV}(hy:xox y=false)(h:cAp lim (tch id0 y sl) (mkO mode x sl)=true):xr3 mode lim id0 x y sl=true:=by
 unfold xr3
 rw[xz1,xz2]at h
 rw[hy]
 simp only[x1ar,x1b1]
 unfold cAp at h
 split at h
 .rename_i r ws e
  rw[e]
  simp only
  rw[x195]at h ⊢
  refine⟨?_,?_⟩
  .have h1:=h.1
   cases lim with
   |none=>rfl
   |some n=>
    simp only at h1 ⊢
    rw[x197]at h1 ⊢
    intro i hi
    exact x19h (x1au (h1 i hi))
  .have h2:=h.2
   rw[x1a5,x195]at h2 ⊢
   rcases h2 with h2|⟨h2,h3⟩
   .exact Or.inl (by rw[x19c h2];rfl)
   .exact Or.inr ⟨by rw[x19c h2];rfl,h3⟩
 .cases h
theorem x15f{c:FCtx}{hs:Hs}{fc next0:Nat}{ops:Array Oper}{i j:Nat}{sl:Nat->AV}(h:xwl pol c.f c.u fc next0 ops i j sl=true):pairOK pol (c.c hs) fc next0 ops i j sl=true:=by
 unfold xwl at h
 unfold pairOK
 split at h
 .rename_i x y e1 e2
  rw[e1,e2]
  simp only
  rw[x195]at h ⊢
  refine⟨h.1,?_⟩
  rw[x1a5]
  right
  have h2:=h.2
  split at h2
  .rename_i hx
   rw[if_pos hx]
   rw[x195]at h2
   exact cAp_ok (by simpa using h2.1) h2.2
  .rename_i hx
   rw[if_neg hx]
   split at h2
   .rename_i hy
    rw[if_pos hy]
    exact cAp_ok (by simpa using hx) h2
   .rename_i hy
    rw[if_neg hy]
    rw[xz1,xz1]at h2
    exact h2
 .cases h
theorem softP_ok{c:FCtx}{hs:Hs}{fc next0:Nat}{ops:Array Oper}{i j:Nat}{sl:Nat->AV}(h:xub pol c.f ops i j=true):pairOK pol (c.c hs) fc next0 ops i j sl=true:=by
 unfold xub at h
 unfold pairOK
 split at h
 .rename_i x y e1 e2
  rw[e1,e2]
  simp only
  rw[x195]at h ⊢
  refine⟨h.1,?_⟩
  rw[x1a5]
  exact Or.inl h.2
 .cases h
theorem x15g{op:Op}(h:xpf op=true):xs3 op=true:=by
 cases op with
 |call c=>
  obtain⟨callee,args,argTypes⟩:=c
  cases callee with
  |builtin b=>cases b<;>simp[xpf]at h<;>rfl
  |_=>simp[xpf]at h
 |_=>first|(simp[xpf]at h;done)|rfl
theorem x12b{f:Nat}{ops:Array Oper}{i:Nat}{x:Oper}{y:Op}(hx:ops[i]?=some x)(h:softA pol f ops i=true)(hy:xpf y=true):xrg (pol f (x.dst.getD 0)) x y=true:=by
 unfold softA at h
 rw[hx]at h
 simp only at h
 unfold xrg
 rw[x195]at h ⊢
 refine⟨h.1,?_⟩
 rw[x1a5]
 right
 rw[x195]
 exact⟨x15g hy,h.2⟩
theorem xvf{id0:Id}{o:Oper}{sl:Nat->AV}(h:xpf o.op=true):xoh id0 o sl=(some [],some []):=by
 obtain⟨dst,op,type,pos,after,guard⟩:=o
 cases op with
 |call cl=>
  obtain⟨callee,args,argTypes⟩:=cl
  cases callee with
  |builtin b=>cases b<;>first|rfl|(simp[xpf]at h)
  |_=>simp[xpf]at h
 |_=>first|rfl|(simp[xpf]at h)
theorem x12c{id0:Id}{o:Oper}{sl:Nat->AV}(h:wNone o.op=true):∃r,xoh id0 o sl=(some r,some []):=by
 unfold wNone at h
 rw[x1a5]at h
 rcases h with h|h
 .exact⟨[],xvf h⟩
 .obtain⟨dst,op,type,pos,after,guard⟩:=o
  cases op with
  |load t a=>simp only[xoh];split<;>exact⟨_,rfl⟩
  |slice t x lo hi mx=>simp only[xoh];split<;>exact⟨_,rfl⟩
  |lookup t x ix ok=>simp only[xoh];split<;>exact⟨_,rfl⟩
  |_=>simp at h
theorem stFine_ok{c:FCtx}{hs:Hs}{fc next0:Nat}{ops:Array Oper}{i j:Nat}{sl:Nat->AV}(h:xvc ops i j=true)(hmk:∀x y,ops[i]?=some x->ops[j]?=some y->(xox x=true->xpf y.op=true->1<=meek (nm (pol c.f (x.dst.getD 0))) x sl)/\(xox y=true->xpf x.op=true->1<=meek (nm (pol c.f (y.dst.getD 0))) y sl)) :
 pairOK pol (c.c hs) fc next0 ops i j sl=true:=by
 unfold xvc at h
 unfold pairOK
 split at h
 .rename_i x y e1 e2
  obtain⟨hm1,hm2⟩:=hmk x y e1 e2
  rw[e1,e2]
  simp only
  rw[x195]at h ⊢
  refine⟨h.1,?_⟩
  rw[x1a5]
  right
  have meek12:∀{mode:Nat} {x:Oper},1<=meek mode x sl->(meek mode x sl == 2||(meek mode x sl == 1&&([]:List Id).isEmpty))=true:=by
   intro mode x h1
   have:=meek_le (mode:=mode) (o:=x) (sl:=sl)
   have:meek mode x sl=1\/meek mode x sl=2:=by omega
   rcases this with e|e<;>rw[e]<;>rfl
  have h2:=h.2
  rw[x1a5]at h2
  rcases h2 with h2|h2
  .rw[x195,x195]at h2
   obtain⟨⟨hx,hy⟩,h3⟩:=h2
   rw[if_neg (by simpa using hx),if_neg (by simpa using hy)]
   rw[x1a5,x1a5,x195]at h3
   rcases h3 with (h3|h3)|⟨h3,h4⟩
   .rw[xvf h3];rfl
   .rw[xvf h3];unfold xoa;split<;>simp_all
   .obtain⟨r1,q1⟩:=x12c (id0:=((c.c hs).u,fc+i,x.dst.getD 0)) (sl:=sl) h3
    obtain⟨r2,q2⟩:=x12c (id0:=((c.c hs).u,fc+j,y.dst.getD 0)) (sl:=sl) h4
    rw[q1,q2]
    unfold xoa
    split
    .rfl
    .rfl
    .rename_i e3 e4
     cases e3;cases e4
     simp[disj]
    .rename_i n1 n2 n3
     exact(n3 _ _ _ _ rfl rfl).elim
  .unfold ncPair at h2
   rw[x1a5,x195,x195,x195,x195]at h2
   rcases h2 with ⟨⟨h3,h4⟩,h5⟩|⟨⟨h3,h4⟩,h5⟩
   .rw[if_pos h3]
    unfold xr3
    rw[h4,xvf h5]
    simp only[x1b1,x1b9,List.all_nil]
    exact meek12 (hm1 h3 h5)
   .have hx:xox x=false:=by simpa using h4
    rw[if_neg (by rw[hx];simp),if_pos h3]
    unfold xr3
    rw[hx,xvf h5]
    simp only[x1ar,x1b1]
    exact meek12 (hm2 h3 h5)
 .cases h
theorem xz3{f:Nat}{ops:Array Oper}{sl:Nat->AV}:∀{l:List Nat},xti pol f ops sl l=true->∀j∈l,∃o,ops[j]?=some o/\1<=meek (nm (pol f (o.dst.getD 0))) o sl
 |[],_,j,hj=>by cases hj
 |a::l,h,j,hj=>by
  simp only[xti,x195]at h
  rcases x19a.mp hj with rfl|hj
  .have h1:=h.1
   split at h1
   .rename_i o e
    rw[xz2]at h1
    exact⟨o,e,x1au h1⟩
   .cases h1
  .exact xz3 h.2 j hj
theorem x12d{f u fc next0:Nat}{ops:Array Oper}{sl:Nat->AV}:∀{l:List (Nat×Nat)},xs9 pol f u fc next0 ops sl l=true->∀p∈l,xwl pol f u fc next0 ops p.1 p.2 sl=true
 |[],_,p,hp=>by cases hp
 |(i,j)::l,h,p,hp=>by
  simp only[xs9,x195]at h
  rcases x19a.mp hp with rfl|hp
  .exact h.1
  .exact x12d h.2 p hp
theorem fdraw_ok{c:FCtx}{hs:Hs}{fc next0:Nat}{ops:Array Oper}{sl:Nat->AV}(h1:xwm ops=true)(h2:xti pol c.f ops sl (meekL pol c.f ops)=true)(h3:xs9 pol c.f c.u fc next0 ops sl (dynP pol c.f ops)=true) :
 xt5 pol (c.c hs) fc next0 ops sl=true:=by
 unfold xt5
 unfold xwm at h1
 simp only at h1 ⊢
 rw[x197]at h1 ⊢
 intro j hj
 have h1j:=h1 j hj
 rw[x195,x195]at h1j ⊢
 refine⟨h1j.1,?_⟩
 have h4:=h1j.2
 rw[x197]at h4 ⊢
 intro i hi
 rw[x195]
 refine⟨h4 i hi,?_⟩
 rw[x1a5]
 by_cases hb:((befs ops).getD j []).contains i=true
 .exact Or.inl hb
 .right
  by_cases hsf:xub pol c.f ops i j=true
  .exact softP_ok hsf
  by_cases hf:xvc ops i j=true
  .refine stFine_ok hf λx y e1 e2=>?_
   have hap:x.apart ops y=true:=by
    unfold xvc at hf
    rw[e1,e2]at hf
    simp only[x195]at hf
    exact hf.1
   have nsx:xpf y.op=true->softA pol c.f ops i=false:=λhy=>by
    rw[x19y]
    intro ha
    apply hsf
    unfold xub
    rw[e1,e2]
    simp only[hap,x12b e1 ha hy,Bool.true_or,x1cv]
   have nsy:xpf x.op=true->softA pol c.f ops j=false:=λhx=>by
    rw[x19y]
    intro ha
    apply hsf
    unfold xub
    rw[e1,e2]
    simp only[hap,x12b e2 ha hx,Bool.or_true,x1cv]
   have hij:i<j:=x19v.mp hi
   have hjn:j<ops.size:=x19v.mp hj
   have hbi:((befs ops).getD i []).contains j=false:=by
    have:=h1 i (x19v.mpr (by omega))
    rw[x195,x195]at this
    have h5:=this.1.2
    rw[x197]at h5
    rw[x19y]
    intro hc
    have:=h5 j (List.contains_iff_mem.mp hc)
    have:=x1b8 this
    omega
   have hn:∀o,xox o=true->xpf o.op=true->False:=by
    intro o a b
    obtain⟨dst,op,type,pos,after,guard⟩:=o
    cases op with
    |call cl=>
     obtain⟨callee,args,argTypes⟩:=cl
     cases callee<;>simp[xox,xpf]at a b
    |_=>simp[xox]at a
   refine⟨λhx hy=>?_,λhy hx=>?_⟩
   .obtain⟨o,e3,e4⟩:=xz3 h2 i (by
     unfold meekL
     rw[x19n]
     refine⟨?_,by rw[nsx hy];rfl⟩
     unfold xyx
     simp only[x19n,x19v]
     refine⟨by omega,?_⟩
     rw[x195,e1]
     refine⟨hx,?_⟩
     rw[List.any_eq_true]
     refine⟨j,hj,?_⟩
     rw[e2]
     have hyc:xox y=false:=by
      rw[x19y];exact λe=>hn y e hy
     simp only[hyc,hy,hbi,x1ar,x1b1]
     simpa using hb)
    rw[e1]at e3;cases e3;exact e4
   .obtain⟨o,e3,e4⟩:=xz3 h2 j (by
     unfold meekL
     rw[x19n]
     refine⟨?_,by rw[nsy hx];rfl⟩
     unfold xyx
     simp only[x19n,x19v]
     refine⟨by omega,?_⟩
     rw[x195,e2]
     refine⟨hy,?_⟩
     rw[List.any_eq_true]
     refine⟨i,x19v.mpr (by omega),?_⟩
     rw[e1]
     have hxc:xox x=false:=by
      rw[x19y];exact λe=>hn x e hx
     simp only[hxc,hx,hbi,x1ar,x1b1,Bool.and_true]
     simpa using hb)
    rw[e2]at e3;cases e3;exact e4
  .refine x15f (x12d h3 (i,j) ?_)
   unfold dynP
   rw[x19n]
   refine⟨?_,by simpa using hsf⟩
   unfold x125
   simp only[x1ah,x1a1,x19n]
   refine⟨j,hj,i,⟨hi,?_⟩,rfl⟩
   simp only[x1di]at hf hb
   simp only[hf,hb,Bool.or_self,x1ar]
theorem freg_ok(hc:xsv P pol call){c:FCtx}{A:Nat->Hs}(hm:Mono A)(hu:Under c.hs A){ops:Array Oper}{draw:Bool}{s:Fs}{k:Fs->Option R}{r:R}(h:fxReg P pol call c ops draw s k=some r):∃s',k s'=some r/\∃n,xqm P pol (xp0 P pol n) (c.c (A n)) ops draw s.s=some s'.s:=by
 unfold fxReg at h
 obtain⟨s1,h1,h2,n,h3⟩:=frun_ok hc hm hu h
 cases draw with
 |false=>
  refine⟨{s1 with fc:=s.fc+ops.size},h1,n,?_⟩
  unfold xqm
  rw[h3]
  rfl
 |true=>
  rw[cond_true]at h1
  cases hml:xt6 P ops with
  |true=>rw[hml]at h1;cases h1
  |false=>
  cases hd:xwm ops with
  |false=>rw[hml,hd]at h1;cases h1
  |true=>
   rw[hml,hd,x1ar,x1b1,cond_true]at h1
   have key:xti pol c.f ops s1.sl (meekL pol c.f ops)=true->xs9 pol c.f c.u s.fc s.m.next ops s1.sl (dynP pol c.f ops)=true->k {s1 with fc:=s.fc+ops.size}=some r->∃s',k s'=some r/\∃n,xqm P pol (xp0 P pol n) (c.c (A n)) ops true s.s=some s'.s:=by
    intro a b e
    refine⟨_,e,n,?_⟩
    unfold xqm
    rw[h3]
    simp only
    have hdr:xt5 pol (c.c (A n)) s.s.fc s.s.st.next ops s1.s.sl=true:=fdraw_ok hd a b
    rw[hdr,hml]
    rfl
   split at h1
   .rename_i e1
    split at h1
    .rename_i e2
     exact key (by rw[e1];rfl) (by rw[e2];rfl) h1
    .rename_i p q e2
     cases hy:xs9 pol c.f c.u s.fc s.m.next ops s1.sl (p::q)with
     |false=>rw[hy]at h1;cases h1
     |true=>rw[hy]at h1;exact key (by rw[e1];rfl) (by rw[e2];exact hy) h1
   .rename_i a b e1
    cases hy:(xti pol c.f ops s1.sl (a::b)&&xs9 pol c.f c.u s.fc s.m.next ops s1.sl (dynP pol c.f ops))with
    |false=>rw[hy]at h1;cases h1
    |true=>
     rw[hy]at h1
     rw[x195]at hy
     exact key (by rw[e1];exact hy.1) hy.2 h1
end Go.Ix
