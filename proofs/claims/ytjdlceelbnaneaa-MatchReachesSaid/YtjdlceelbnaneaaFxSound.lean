import Derived.Test.YtjdlceelbnaneaaFxOps
set_option linter.unusedSimpArgs false
set_option linter.unusedVariables false
namespace Go.Ix
variable{P:Program}{pol:Pol}{call:x9a}{R:Type}
theorem shut1_get(h:Hp)(i j:Id):hget (shut1 h i) j=shut [i] (hget h) j:=by
 unfold shut1 shut
 by_cases hj:j=i
 .subst hj
  rw[xn5 (xqj.mpr rfl)]
  cases e:hget h j with
  |none=>simp[e]
  |some o=>
   cases o with
   |map es=>simp[e]
   |lp d=>simp[e]
   |row cs v f=>
    cases f with
    |true=>simp[e]
    |false=>simp[xew]
 .rw[xn6 (by simpa using hj)]
  split
  .rw[xew,xn6 hj]
  .rfl
theorem xj0:∀(ids:List Id) (h:Hp),hget (xcn ids h)=shut ids (hget h)
 |[],h=>by funext i;simp[xcn,shut]
 |i::r,h=>by
  funext j
  rw[xcn,xj0 r]
  have h1:=shut1_get h i j
  unfold shut at h1 ⊢
  rw[h1]
  by_cases hj:j=i
  .subst hj
   simp only[xqj,xnp,xnh,true_or]
   cases e:hget h j with
   |none=>simp
   |some o=>
    cases o with
    |map es=>simp
    |lp d=>simp
    |row cs v f=>simp
  .simp[hj]
theorem xj1(h':Hp):∀(ids:List Id) (h:Hp),(∀i∈ids,∃o,hget h' i=some o)->∀j,hget (keepH h' ids h) j=if j∈ids then hget h' j else hget h j
 |[],h,_,j=>by simp[keepH]
 |i::r,h,hi,j=>by
  obtain⟨o,ho⟩:=hi i (xne ..)
  simp only[keepH,ho]
  rw[xj1 h' r _ λx hx=>hi x (xnc _ hx)]
  simp only[xnh,xew]
  by_cases hj:j∈r
  .simp[hj]
  .by_cases hji:j=i
   .subst hji;simp[hj,ho]
   .simp[hj,hji]
theorem row1_nil{h:Hp}{u:Nat}(hn:∀e∈h,e.1≠u):row1 h u=[]:=by
 induction h with
 |nil=>rfl
 |cons e r ih=>
  obtain⟨v,l⟩:=e
  simp only[row1]
  have:Nat.beq v u=false:=by
   rw[xnw];intro x;exact hn _ (xne ..) (xnf x)
  rw[this]
  exact ih λe he=>hn e (xnc _ he)
theorem xey{p:Nat×List (Nat×Nat×Ob)->Bool}{u:Nat}{t:Hp}(ht:∀e∈t,e.1≠u):∀{h:Hp},(∀l,p (u,l)=true)->row1 (h.filter p++t) u=row1 h u
 |[],_=>row1_nil ht
 |(v,l)::r,hp=>by
  simp only[List.filter_cons]
  by_cases hv:v=u
  .subst hv
   rw[xn5 (hp l)]
   simp[row1]
  .have hb:Nat.beq v u=false:=by
    rw[xnw];intro x;exact hv (xnf x)
   split
   .simp only[xpl,row1,hb,cond_false];exact xey ht hp
   .simp only[row1,hb,cond_false];exact xey ht hp
theorem xj2{u:Nat}{t:Hp}:∀{h:Hp},(∀e∈h,e.1≠u)->row1 (h++t) u=row1 t u
 |[],_=>rfl
 |(v,l)::r,hn=>by
  have hb:Nat.beq v u=false:=by
   rw[xnw];intro x;exact hn _ (xne ..) (xnf x)
  simp only[xpl,row1,hb,cond_false]
  exact xj2 λe he=>hn e (xnc _ he)
theorem join_get(h' h:Hp)(n:Nat):hget ((h'.filter λe=>Nat.ble n e.1)++(h.filter λe=>Nat.blt e.1 n))=λi=>if n<=i.1 then hget h' i else hget h i:=by
 funext i
 unfold hget
 by_cases hi:n<=i.1
 .rw[xn5 hi,xey]
  .intro e he
   rw[xnr]at he
   have:=xoh he.2
   omega
  .intro l;exact xqr hi
 .rw[xn6 hi,xj2]
  .have:row1 (List.filter (λe=>e.fst.blt n) h++[]) i.1=row1 h i.1:=xey (λe he=>by cases he) (λl=>xqr (by omega))
   rw[xqs]at this
   rw[this]
  .intro e he
   rw[xnr]at he
   have:=xoh he.2
   omega
def Mono(A:Nat->Hs):Prop:=∀n m,n<=m->HLe (A n) (A m)
def Under(hs:FHs)(A:Nat->Hs):Prop:=∀id h,xc5 hs id=some h->∀args m m',h args m=some m'->∃n g,hsAt (A n) id=some g/\g args m.st=some m'.st
def Nil:Nat->Hs:=λ_=>[]
theorem Mono.nil:Mono Nil:=λ_ _ _=>trivial
theorem Under.nil:Under [] Nil:=λ_ _ h=>by simp[xc5]at h
theorem Under.shift{hs:FHs}{A:Nat->Hs}(hm:Mono A)(h:Under hs A):Under hs λn=>A (n+1):=by
 intro id g hg args m m' e
 obtain⟨n,g',h1,h2⟩:=h id g hg args m m' e
 obtain⟨g2,h3,h4⟩:=xfr (hm n (n+1) (by omega)) h1
 exact⟨n,g2,h3,h4 _ _ _ h2⟩
def xc7(P:Program)(pol:Pol)(call:x9a):Prop:=∀hs A f args m r m',Mono A->Under hs A->call hs f args m=some (r,m')->∃n,xa0 P pol n (A n) f args m.st=some (r,m'.st)
theorem callLe{n m:Nat}(h:n<=m):xch (xa0 P pol n) (xa0 P pol m):=body_le (xax h)
theorem fxInv_ok(hc:xc7 P pol call){hs:FHs}{A:Nat->Hs}(hm:Mono A)(hu:Under hs A){mode:Nat}{fv:AV}{args:List AV}{m m':Mem}{r:AV}(h:xbi call hs mode fv args m=some (r,m')):∃n,xa5 (xa0 P pol n) (A n) mode fv args m.st=some (r,m'.st):=by
 cases fv with
 |clo f caps=>
  simp only[xbi]at h
  split at h
  .unfold x99 at h
   split at h
   .rename_i l' e1
    split at h
    .rename_i r0 m0 e2
     rw[xna]at h
     obtain⟨r1,h1,h2⟩:=h
     cases h2
     obtain⟨n,hn⟩:=hc _ _ _ _ _ _ _ Mono.nil Under.nil e2
     refine⟨n,?_⟩
     have e1':(args++caps).mapM (frz m.st.objs deep)=some l':=e1
     have hn':xa0 P pol n [] f l' xb1=some (r0,m0.st):=hn
     have h1':frz m0.st.objs deep r0=some r:=h1
     simp only[xa5,e1',hn',h1',Option.map_some]
     rw[show(Mem.mk (xcn ((args++caps).flatMap (x9d m.get deep)) m.hp) m.next).st={m.st with objs:=shut ((args++caps).flatMap (x9d m.st.objs deep)) m.st.objs}from by
      simp only[Mem.st,Mem.get]
      congr 1
      exact xj0 _ _]
    .cases h
   .cases h
  .unfold sCall3 at h
   split at h
   .rename_i l' e1
    split at h
    .rename_i r0 m0 e2
     split at h
     .rename_i e3
      cases h
      obtain⟨n,hn⟩:=hc _ _ _ _ _ _ _ Mono.nil Under.nil e2
      refine⟨n,?_⟩
      have e1':(args++caps).mapM (frz m.st.objs deep)=some l':=e1
      have hn':xa0 P pol n [] f l' xb1=some (r,m0.st):=hn
      simp only[xa5,e1',hn',xn5 e3]
     .cases h
    .cases h
   .cases h
  .unfold sCall4 at h
   split at h
   .rename_i l' e1
    split at h
    .rename_i r0 m0 e2
     split at h
     .rename_i e3
      cases h
      obtain⟨n,hn⟩:=hc _ _ _ _ _ _ _ Mono.nil Under.nil e2
      refine⟨n,?_⟩
      have e1':(args++caps).mapM (frz m.st.objs deep)=some l':=e1
      have hn':xa0 P pol n [] f l' {objs:=λ_=>none,next:=m.next}=some (r,m0.st):=hn
      simp only[xa5]
      rw[e1']
      simp only
      rw[show({objs:=λ_=>none,next:=m.st.next}:St)={objs:=λ_=>none,next:=m.next}from rfl,hn']
      simp only
      split
      case isFalse hno=>exact absurd e3 hno
      have hk:∀i∈x9d m0.get deep r,∃o,hget m0.hp i=some o:=by
       intro j hj
       rw[xn9]at e3
       have:=xnb.mp e3.2 j hj
       rw[xn9]at this
       revert this
       show _/\(match hget m0.hp j with|some (.row cs _ false)=>cs.all isSc|_=>false)=true->_
       rintro⟨-,h4⟩
       cases e:hget m0.hp j with
       |none=>rw[e]at h4;cases h4
       |some o=>exact⟨o,rfl⟩
      congr 2
      simp only[Mem.st,Mem.get]
      congr 1
      funext i
      exact(xj1 _ _ _ hk i).symm
     .cases h
    .cases h
   .cases h
  .unfold sCall1 at h
   split at h
   .rename_i e1
    split at h
    .rename_i r0 m0 e2
     cases h
     obtain⟨n,hn⟩:=hc _ _ _ _ _ _ _ Mono.nil Under.nil e2
     refine⟨n,?_⟩
     have hn':xa0 P pol n [] f (args++caps) {objs:=λ_=>none,next:=m.next}=some (r,m0.st):=hn
     simp only[xa5,xn5 e1]
     rw[show({objs:=λ_=>none,next:=m.st.next}:St)={objs:=λ_=>none,next:=m.next}from rfl,hn']
     simp only[Mem.st]
     congr 2
     exact congrArg (St.mk · _) (join_get m0.hp m.hp m.next).symm
    .cases h
   .cases h
  .rename_i h0 h3 h4 h1
   obtain⟨n,hn⟩:=hc _ _ _ _ _ _ _ hm hu h
   refine⟨n,?_⟩
   have key:∀mode:Nat,(mode=0->False)->(mode=3->False)->(mode=4->False)->(mode=1->False)->xa5 (xa0 P pol n) (A n) mode (.clo f caps) args m.st=xa0 P pol n (A n) f (args++caps) m.st:=by
    intro mode a b c d
    unfold xa5
    split<;>first|rfl|(exact(a rfl).elim)|(exact(b rfl).elim)|(exact(c rfl).elim)|(exact(d rfl).elim)|skip
    split<;>first|rfl|(exact(a rfl).elim)|(exact(b rfl).elim)|(exact(c rfl).elim)|(exact(d rfl).elim)|simp_all
    all_goals simp_all
   rw[key mode h0 h3 h4 h1]
   exact hn
 |yld id=>
  simp only[xbi]at h
  split at h
  .rename_i g e
   rw[xna]at h
   obtain⟨m1,h1,h2⟩:=h
   cases h2
   obtain⟨n,g',h3,h4⟩:=hu _ _ e _ _ _ h1
   exact⟨n,by simp only[xa5,h3,h4,Option.map_some];rfl⟩
  .cases h
 |_=>simp[xbi]at h
def FCtx.c(c:FCtx)(hs:Hs):Ctx:={f:=c.f,u:=c.u,nt:=c.nt,hs:=hs}
theorem xgj{ops:Array Oper}{o:Oper}{sl:Nat->AV}:xau ops o sl=xes ops o.guard sl:=by
 unfold xau xes
 cases o.guard with
 |none=>rfl
 |some g=>
  obtain⟨j,w⟩:=g
  simp only
  cases(ops[j]?).bind (·.dst)with
  |none=>rfl
  |some t=>simp only[sW];rfl
theorem xgk{c:FCtx}{hs:Hs}{dst:Option Tmp}{v:AV}{s:Fs}{k:Fs->Option R}{r:R}(h:fput c.nt dst v s k=some r):∃s',put (c.c hs) dst v s.s=some s'.s/\k s'=some r/\s'.fc=s.fc/\s'.m=s.m:=by
 unfold fput at h
 split at h
 .rename_i d
  cases hd:Nat.blt d c.nt with
  |false=>rw[hd]at h;cases h
  |true=>
   rw[hd]at h
   exact⟨_,by simp only[put];rw[xn5 (show d<(c.c hs).nt from xoh hd)];rfl,h,rfl,rfl⟩
 .exact⟨s,rfl,h,rfl,rfl⟩
theorem fop_ok(hc:xc7 P pol call){c:FCtx}{A:Nat->Hs}(hm:Mono A)(hu:Under c.hs A){ops:Array Oper}{i:Nat}{o:Oper}(ho:ops[i]?=some o){s:Fs}{k:AV->Mem->Option R}{r:R}(h:fxOp P pol call c (c.u,s.fc+i,o.dst.getD 0) o s.sl s.m k=some r)(hw:xau ops o s.sl=true) :
 ∃v m',k v m'=some r/\∃n,∀s1,put (c.c (A n)) o.dst v {s with m:=m' }.s=some s1->xa4 P pol (xa0 P pol n) (c.c (A n)) ops i s.s=some s1:=by
 by_cases hn:x9o o=true
 .obtain⟨dst,op,type,pos,after,guard⟩:=o
  cases op with
  |call cl=>
   obtain⟨callee,args,argTypes⟩:=cl
   cases callee with
   |value fv=>
    simp only[fxOp]at h
    rw[xo4]at h
    obtain⟨⟨v,m'⟩,h1,h2⟩:=h
    obtain⟨n,hn⟩:=fxInv_ok hc hm hu h1
    refine⟨v,m',h2,n,λs1 hp=>?_⟩
    unfold xa4
    rw[ho]
    simp only
    have hw':xau ops {dst:=dst,op:=Op.call {callee:=Callee.value fv,args:=args,argTypes:=argTypes},type:=type,pos:=pos,after:=after,guard:=guard} s.s.sl=true:=hw
    rw[xn5 hw']
    have hn':xa5 (xa0 P pol n) (c.c (A n)).hs (pol (c.c (A n)).f (dst.getD 0)) (ev s.s.sl fv) (args.toList.map (ev s.s.sl)) s.s.st=some (v,m'.st):=hn
    rw[hn']
    exact hp
   |_=>simp[x9o]at hn
  |_=>simp[x9o]at hn
 .have hn':x9o o=false:=by simpa using hn
  obtain⟨v,m',h1,h2,h3⟩:=fxOp_ok hn' h
  refine⟨v,m',h3,0,λs1 hp=>?_⟩
  unfold xa4
  rw[ho]
  simp only
  have hw':xau ops o s.s.sl=true:=hw
  rw[xn5 hw']
  have h1':ixOp P ((c.c (A 0)).u,s.s.fc+i,o.dst.getD 0) o s.s.sl s.s.st.objs=some (v,m'.get):=h1
  have hp':put (c.c (A 0)) o.dst v {s.s with st:={s.s.st with objs:=m'.get}}=some s1:=by
   have:({s with m:=m' }:Fs).s={s.s with st:={s.s.st with objs:=m'.get}}:=by
    simp only[Fs.s,Mem.st,h2]
   rw[<-this];exact hp
  split
  .rename_i fv args at' e
   have:x9o o=true:=by simp only[x9o,e]
   rw[this]at hn';cases hn'
  .rw[h1']
   exact hp'
theorem fstep_ok(hc:xc7 P pol call){c:FCtx}{A:Nat->Hs}(hm:Mono A)(hu:Under c.hs A){ops:Array Oper}{i:Nat}{s:Fs}{k:Fs->Option R}{r:R}(h:fxStep P pol call c ops i s k=some r):∃s',k s'=some r/\s'.fc=s.fc/\∃n,xa4 P pol (xa0 P pol n) (c.c (A n)) ops i s.s=some s'.s:=by
 unfold fxStep at h
 split at h
 .rename_i e
  exact⟨s,h,rfl,0,by unfold xa4;rw[e]⟩
 .rename_i o e
  split at h
  .rename_i hg
   obtain⟨v,m',h1,n,h2⟩:=fop_ok hc hm hu e h (by rw[xgj,hg];rfl)
   obtain⟨s',h3,h4,h5,h6⟩:=xgk (hs:=A n) h1
   exact⟨s',h4,h5,n,h2 _ h3⟩
  .rename_i g hg
   rw[xo4]at h
   obtain⟨⟨v,m'⟩,h1,h2⟩:=h
   cases hw:xes ops (some g) s.sl with
   |true=>
    rw[hw,cond_true]at h1
    obtain⟨v1,m1,h3,n,h4⟩:=fop_ok hc hm hu e h1 (by rw[xgj,hg];exact hw)
    cases h3
    obtain⟨s',h5,h6,h7,h8⟩:=xgk (hs:=A n) h2
    exact⟨s',h6,h7,n,h4 _ h5⟩
   |false=>
    rw[hw,cond_false]at h1
    cases h1
    obtain⟨s',h5,h6,h7,h8⟩:=xgk (hs:=A 0) h2
    refine⟨s',h6,h7,0,?_⟩
    unfold xa4
    rw[e]
    simp only
    rw[xn6 (by rw[show s.s.sl=s.sl from rfl,xgj,hg,hw];simp)]
    exact h5
theorem frun_ok(hc:xc7 P pol call){c:FCtx}{A:Nat->Hs}(hm:Mono A)(hu:Under c.hs A){ops:Array Oper}:∀{L:List Nat} {s:Fs} {k:Fs->Option R} {r:R},
 fxRun P pol call c ops L s k=some r->∃s',k s'=some r/\s'.fc=s.fc/\∃n,xa1 P pol (xa0 P pol n) (c.c (A n)) ops L s.s=some s'.s
 |[],s,k,r,h=>⟨s,h,rfl,0,rfl⟩
 |i::L,s,k,r,h=>by
  obtain⟨s1,h1,h2,n1,h3⟩:=fstep_ok hc hm hu h
  obtain⟨s2,h4,h5,n2,h6⟩:=frun_ok hc hm hu h1
  refine⟨s2,h4,h5.trans h2,max n1 n2,?_⟩
  have q1:=step_le (callLe (P:=P) (pol:=pol) (Nat.le_max_left n1 n2)) (hm n1 (max n1 n2) (Nat.le_max_left ..)) h3
  have q2:=run_le (callLe (P:=P) (pol:=pol) (Nat.le_max_right n1 n2)) (hm n2 (max n1 n2) (Nat.le_max_right ..)) h6
  simp only[xa1]
  have q1':xa4 P pol (xa0 P pol (max n1 n2)) (c.c (A (max n1 n2))) ops i s.s=some s1.s:=q1
  rw[q1']
  exact q2
theorem xgl{id0:Id}{o:Oper}{sl:Nat->AV}:tch id0 o sl=x9f id0 o sl:=by
 obtain⟨dst,op,type,pos,after,guard⟩:=o
 unfold tch
 cases op with
 |load t a=>rfl
 |store t a x=>rfl
 |slice t x lo hi mx=>rfl
 |lookup t x ix ok=>rfl
 |call cl=>
  obtain⟨callee,args,argTypes⟩:=cl
  simp only
  split
  .rename_i s x e2
   simp only[x9f,e2];rfl
  .rename_i s x e2
   simp only[x9f,e2];rfl
  .rfl
 |_=>rfl
theorem xgm{mode:Nat}{o:Oper}{sl:Nat->AV}:mkO mode o sl=meek mode o sl:=by
 obtain⟨dst,op,type,pos,after,guard⟩:=o
 cases op with
 |call cl=>
  obtain⟨callee,args,argTypes⟩:=cl
  cases callee with
  |value fv=>rfl
  |_=>rfl
 |_=>rfl
theorem meek_le{mode:Nat}{o:Oper}{sl:Nat->AV}:meek mode o sl<=2:=by
 rw[<-xgm]
 unfold mkO mkD mkM
 split
 .split
  .split
   .split
    .omega
    .split<;>omega
   .omega
  .omega
 .omega
theorem cAp_ok{mode:Nat}{lim:Option Nat}{id0:Id}{x y:Oper}{sl:Nat->AV}(hy:x9o y=false)(h:cAp lim (tch id0 y sl) (mkO mode x sl)=true):xb2 mode lim id0 x y sl=true:=by
 unfold xb2
 rw[xgl,xgm]at h
 rw[hy]
 simp only[xor,xos]
 unfold cAp at h
 split at h
 .rename_i r ws e
  rw[e]
  simp only
  rw[xn9]at h ⊢
  refine⟨?_,?_⟩
  .have h1:=h.1
   cases lim with
   |none=>rfl
   |some n=>
    simp only at h1 ⊢
    rw[xnb]at h1 ⊢
    intro i hi
    exact xny (xoh (h1 i hi))
  .have h2:=h.2
   rw[xo7,xn9]at h2 ⊢
   rcases h2 with h2|⟨h2,h3⟩
   .exact Or.inl (by rw[xnf h2];rfl)
   .exact Or.inr ⟨by rw[xnf h2];rfl,h3⟩
 .cases h
theorem xlk{c:FCtx}{hs:Hs}{fc next0:Nat}{ops:Array Oper}{i j:Nat}{sl:Nat->AV}(h:xet pol c.f c.u fc next0 ops i j sl=true):pairOK pol (c.c hs) fc next0 ops i j sl=true:=by
 unfold xet at h
 unfold pairOK
 split at h
 .rename_i x y e1 e2
  rw[e1,e2]
  simp only
  rw[xn9]at h ⊢
  refine⟨h.1,?_⟩
  have h2:=h.2
  split at h2
  .rename_i hx
   rw[xn5 hx]
   rw[xn9]at h2
   exact cAp_ok (by simpa using h2.1) h2.2
  .rename_i hx
   rw[xn6 hx]
   split at h2
   .rename_i hy
    rw[xn5 hy]
    exact cAp_ok (by simpa using hx) h2
   .rename_i hy
    rw[xn6 hy]
    rw[xgl,xgl]at h2
    exact h2
 .cases h
theorem xdy{id0:Id}{o:Oper}{sl:Nat->AV}(h:xao o.op=true):x9f id0 o sl=(some [],some []):=by
 obtain⟨dst,op,type,pos,after,guard⟩:=o
 cases op with
 |call cl=>
  obtain⟨callee,args,argTypes⟩:=cl
  cases callee with
  |builtin b=>cases b<;>first|rfl|(simp[xao]at h)
  |_=>simp[xao]at h
 |_=>first|rfl|(simp[xao]at h)
theorem xj3{id0:Id}{o:Oper}{sl:Nat->AV}(h:wNone o.op=true):∃r,x9f id0 o sl=(some r,some []):=by
 unfold wNone at h
 rw[xo7]at h
 rcases h with h|h
 .exact⟨[],xdy h⟩
 .obtain⟨dst,op,type,pos,after,guard⟩:=o
  cases op with
  |load t a=>simp only[x9f];split<;>exact⟨_,rfl⟩
  |slice t x lo hi mx=>simp only[x9f];split<;>exact⟨_,rfl⟩
  |lookup t x ix ok=>simp only[x9f];split<;>exact⟨_,rfl⟩
  |_=>simp at h
theorem stFine_ok{c:FCtx}{hs:Hs}{fc next0:Nat}{ops:Array Oper}{i j:Nat}{sl:Nat->AV}(h:xeu ops i j=true)(hmk:∀x y,ops[i]?=some x->ops[j]?=some y->(x9o x=true->xao y.op=true->1<=meek (pol c.f (x.dst.getD 0)) x sl)/\(x9o y=true->xao x.op=true->1<=meek (pol c.f (y.dst.getD 0)) y sl)) :
 pairOK pol (c.c hs) fc next0 ops i j sl=true:=by
 unfold xeu at h
 unfold pairOK
 split at h
 .rename_i x y e1 e2
  obtain⟨hm1,hm2⟩:=hmk x y e1 e2
  rw[e1,e2]
  simp only
  rw[xn9]at h ⊢
  refine⟨h.1,?_⟩
  have meek12:∀{mode:Nat} {x:Oper},1<=meek mode x sl->(meek mode x sl == 2||(meek mode x sl == 1&&([]:List Id).isEmpty))=true:=by
   intro mode x h1
   have:=meek_le (mode:=mode) (o:=x) (sl:=sl)
   have:meek mode x sl=1\/meek mode x sl=2:=by omega
   rcases this with e|e<;>rw[e]<;>rfl
  have h2:=h.2
  rw[xo7]at h2
  rcases h2 with h2|h2
  .rw[xn9,xn9]at h2
   obtain⟨⟨hx,hy⟩,h3⟩:=h2
   rw[xn6 (by simpa using hx),xn6 (by simpa using hy)]
   rw[xo7,xo7,xn9]at h3
   rcases h3 with (h3|h3)|⟨h3,h4⟩
   .rw[xdy h3];rfl
   .rw[xdy h3];unfold x9t;split<;>simp_all
   .obtain⟨r1,q1⟩:=xj3 (id0:=((c.c hs).u,fc+i,x.dst.getD 0)) (sl:=sl) h3
    obtain⟨r2,q2⟩:=xj3 (id0:=((c.c hs).u,fc+j,y.dst.getD 0)) (sl:=sl) h4
    rw[q1,q2]
    unfold x9t
    split
    .rfl
    .rfl
    .rename_i e3 e4
     cases e3;cases e4
     simp[disj]
    .rename_i n1 n2 n3
     exact(n3 _ _ _ _ rfl rfl).elim
  .unfold ncPair at h2
   rw[xo7,xn9,xn9,xn9,xn9]at h2
   rcases h2 with ⟨⟨h3,h4⟩,h5⟩|⟨⟨h3,h4⟩,h5⟩
   .rw[xn5 h3]
    unfold xb2
    rw[h4,xdy h5]
    simp only[xos,xqs,List.all_nil]
    exact meek12 (hm1 h3 h5)
   .have hx:x9o x=false:=by simpa using h4
    rw[xn6 (by rw[hx];simp),xn5 h3]
    unfold xb2
    rw[hx,xdy h5]
    simp only[xor,xos]
    exact meek12 (hm2 h3 h5)
 .cases h
theorem xgn{f:Nat}{ops:Array Oper}{sl:Nat->AV}:∀{l:List Nat},xco pol f ops sl l=true->∀j∈l,∃o,ops[j]?=some o/\1<=meek (pol f (o.dst.getD 0)) o sl
 |[],_,j,hj=>by cases hj
 |a::l,h,j,hj=>by
  simp only[xco,xn9]at h
  rcases xnh.mp hj with rfl|hj
  .have h1:=h.1
   split at h1
   .rename_i o e
    rw[xgm]at h1
    exact⟨o,e,xoh h1⟩
   .cases h1
  .exact xgn h.2 j hj
theorem xj4{f u fc next0:Nat}{ops:Array Oper}{sl:Nat->AV}:∀{l:List (Nat×Nat)},xbr pol f u fc next0 ops sl l=true->∀p∈l,xet pol f u fc next0 ops p.1 p.2 sl=true
 |[],_,p,hp=>by cases hp
 |(i,j)::l,h,p,hp=>by
  simp only[xbr,xn9]at h
  rcases xnh.mp hp with rfl|hp
  .exact h.1
  .exact xj4 h.2 p hp
theorem fdraw_ok{c:FCtx}{hs:Hs}{fc next0:Nat}{ops:Array Oper}{sl:Nat->AV}(h1:xev ops=true)(h2:xco pol c.f ops sl (xdv ops)=true)(h3:xbr pol c.f c.u fc next0 ops sl (xd7 ops)=true) :
 xcf pol (c.c hs) fc next0 ops sl=true:=by
 unfold xcf
 unfold xev at h1
 simp only at h1 ⊢
 rw[xnb]at h1 ⊢
 intro j hj
 have h1j:=h1 j hj
 rw[xn9,xn9]at h1j ⊢
 refine⟨h1j.1,?_⟩
 have h4:=h1j.2
 rw[xnb]at h4 ⊢
 intro i hi
 rw[xn9]
 refine⟨h4 i hi,?_⟩
 rw[xo7]
 by_cases hb:((befs ops).getD j []).contains i=true
 .exact Or.inl hb
 .right
  by_cases hf:xeu ops i j=true
  .refine stFine_ok hf λx y e1 e2=>?_
   have hij:i<j:=xnq.mp hi
   have hjn:j<ops.size:=xnq.mp hj
   have hbi:((befs ops).getD i []).contains j=false:=by
    have:=h1 i (xnq.mpr (by omega))
    rw[xn9,xn9]at this
    have h5:=this.1.2
    rw[xnb]at h5
    rw[xnw]
    intro hc
    have:=h5 j (List.contains_iff_mem.mp hc)
    have:=xot this
    omega
   have hn:∀o,x9o o=true->xao o.op=true->False:=by
    intro o a b
    obtain⟨dst,op,type,pos,after,guard⟩:=o
    cases op with
    |call cl=>
     obtain⟨callee,args,argTypes⟩:=cl
     cases callee<;>simp[x9o,xao]at a b
    |_=>simp[x9o]at a
   refine⟨λhx hy=>?_,λhy hx=>?_⟩
   .obtain⟨o,e3,e4⟩:=xgn h2 i (by
     unfold xdv
     simp only[xnr,xnq]
     refine⟨by omega,?_⟩
     rw[xn9,e1]
     refine⟨hx,?_⟩
     rw[List.any_eq_true]
     refine⟨j,hj,?_⟩
     rw[e2]
     have hyc:x9o y=false:=by
      rw[xnw];exact λe=>hn y e hy
     simp only[hyc,hy,hbi,xor,xos]
     simpa using hb)
    rw[e1]at e3;cases e3;exact e4
   .obtain⟨o,e3,e4⟩:=xgn h2 j (by
     unfold xdv
     simp only[xnr,xnq]
     refine⟨by omega,?_⟩
     rw[xn9,e2]
     refine⟨hy,?_⟩
     rw[List.any_eq_true]
     refine⟨i,xnq.mpr (by omega),?_⟩
     rw[e1]
     have hxc:x9o x=false:=by
      rw[xnw];exact λe=>hn x e hx
     simp only[hxc,hx,hbi,xor,xos,Bool.and_true]
     simpa using hb)
    rw[e2]at e3;cases e3;exact e4
  .refine xlk (xj4 h3 (i,j) ?_)
   unfold xd7
   simp only[xog,xnv,xnr]
   refine⟨j,hj,i,⟨hi,?_⟩,rfl⟩
   simp only[xqq]at hf hb
   simp only[hf,hb,Bool.or_self,xor]
theorem freg_ok(hc:xc7 P pol call){c:FCtx}{A:Nat->Hs}(hm:Mono A)(hu:Under c.hs A){ops:Array Oper}{draw:Bool}{s:Fs}{k:Fs->Option R}{r:R}(h:fxReg P pol call c ops draw s k=some r):∃s',k s'=some r/\∃n,xav P pol (xa0 P pol n) (c.c (A n)) ops draw s.s=some s'.s:=by
 unfold fxReg at h
 obtain⟨s1,h1,h2,n,h3⟩:=frun_ok hc hm hu h
 cases draw with
 |false=>
  refine⟨{s1 with fc:=s.fc+ops.size},h1,n,?_⟩
  unfold xav
  rw[h3]
  rfl
 |true=>
  rw[cond_true]at h1
  cases hml:xcg P ops with
  |true=>rw[hml]at h1;cases h1
  |false=>
  cases hd:xev ops with
  |false=>rw[hml,hd]at h1;cases h1
  |true=>
   rw[hml,hd,xor,xos,cond_true]at h1
   have key:xco pol c.f ops s1.sl (xdv ops)=true->xbr pol c.f c.u s.fc s.m.next ops s1.sl (xd7 ops)=true->k {s1 with fc:=s.fc+ops.size}=some r->∃s',k s'=some r/\∃n,xav P pol (xa0 P pol n) (c.c (A n)) ops true s.s=some s'.s:=by
    intro a b e
    refine⟨_,e,n,?_⟩
    unfold xav
    rw[h3]
    simp only
    have hdr:xcf pol (c.c (A n)) s.s.fc s.s.st.next ops s1.s.sl=true:=fdraw_ok hd a b
    rw[hdr,hml]
    rfl
   split at h1
   .rename_i e1
    split at h1
    .rename_i e2
     exact key (by rw[e1];rfl) (by rw[e2];rfl) h1
    .rename_i p q e2
     cases hy:xbr pol c.f c.u s.fc s.m.next ops s1.sl (p::q)with
     |false=>rw[hy]at h1;cases h1
     |true=>rw[hy]at h1;exact key (by rw[e1];rfl) (by rw[e2];exact hy) h1
   .rename_i a b e1
    cases hy:(xco pol c.f ops s1.sl (a::b)&&xbr pol c.f c.u s.fc s.m.next ops s1.sl (xd7 ops))with
    |false=>rw[hy]at h1;cases h1
    |true=>
     rw[hy]at h1
     rw[xn9]at hy
     exact key (by rw[e1];exact hy.1) hy.2 h1
end Go.Ix
