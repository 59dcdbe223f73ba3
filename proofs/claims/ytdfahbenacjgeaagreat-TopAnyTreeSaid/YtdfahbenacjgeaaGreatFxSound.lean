import Derived.Test.YtdfahbenacjgeaaGreatFxOps
set_option linter.unusedSimpArgs false
set_option linter.unusedVariables false
namespace Go.Ix
variable{P:Program}{pol:Pol}{call:xk3}{R:Type}
theorem shut1_get(h:Hp)(i j:Id):hget (shut1 h i) j=shut [i] (hget h) j:=by
 unfold shut1 shut
 by_cases hj:j=i
 .subst hj
  rw[x12c (x16q.mpr rfl)]
  cases e:hget h j with
  |none=>simp[e]
  |some o=>
   cases o with
   |map es=>simp[e]
   |lp d=>simp[e]
   |row cs v f=>
    cases f with
    |true=>simp[e]
    |false=>simp[xrg]
 .rw[x12b (by simpa using hj)]
  split
  .rw[xrg,x12b hj]
  .rfl
theorem xri:∀(ids:List Id) (h:Hp),hget (xn9 ids h)=shut ids (hget h)
 |[],h=>by funext i;simp[xn9,shut]
 |i::r,h=>by
  funext j
  rw[xn9,xri r]
  have h1:=shut1_get h i j
  unfold shut at h1 ⊢
  rw[h1]
  by_cases hj:j=i
  .subst hj
   simp only[x16q,x12v,x12q,true_or]
   cases e:hget h j with
   |none=>simp
   |some o=>
    cases o with
    |map es=>simp
    |lp d=>simp
    |row cs v f=>simp
  .simp[hj]
theorem xw1(h':Hp):∀(ids:List Id) (h:Hp),(∀i∈ids,∃o,hget h' i=some o)->∀j,hget (keepH h' ids h) j=if j∈ids then hget h' j else hget h j
 |[],h,_,j=>by simp[keepH]
 |i::r,h,hi,j=>by
  obtain⟨o,ho⟩:=hi i (x12m ..)
  simp only[keepH,ho]
  rw[xw1 h' r _ λx hx=>hi x (x12l _ hx)]
  simp only[x12q,xrg]
  by_cases hj:j∈r
  .simp[hj]
  .by_cases hji:j=i
   .subst hji;simp[hj,ho]
   .simp[hj,hji]
theorem row1_nil{h:Hp}{u:Nat}(hn:∀e∈h,e.1≠u):row1 h u=[]:=by
 induction h with
 |nil=>rfl
 |cons e r ih=>
  obtain⟨v,l⟩:=e
  simp only[row1]
  have:Nat.beq v u=false:=by
   rw[x13d];intro x;exact hn _ (x12m ..) (x12u x)
  rw[this]
  exact ih λe he=>hn e (x12l _ he)
theorem xrj{p:Nat×List (Nat×Nat×Ob)->Bool}{u:Nat}{t:Hp}(ht:∀e∈t,e.1≠u):∀{h:Hp},(∀l,p (u,l)=true)->row1 (h.filter p++t) u=row1 h u
 |[],_=>row1_nil ht
 |(v,l)::r,hp=>by
  simp only[x159]
  by_cases hv:v=u
  .subst hv
   rw[x12c (hp l)]
   simp[row1]
  .have hb:Nat.beq v u=false:=by
    rw[x13d];intro x;exact hv (x12u x)
   split
   .simp only[x141,row1,hb,cond_false];exact xrj ht hp
   .simp only[row1,hb,cond_false];exact xrj ht hp
theorem xw2{u:Nat}{t:Hp}:∀{h:Hp},(∀e∈h,e.1≠u)->row1 (h++t) u=row1 t u
 |[],_=>rfl
 |(v,l)::r,hn=>by
  have hb:Nat.beq v u=false:=by
   rw[x13d];intro x;exact hn _ (x12m ..) (x12u x)
  simp only[x141,row1,hb,cond_false]
  exact xw2 λe he=>hn e (x12l _ he)
theorem xw3(h' h:Hp)(n:Nat):hget ((h'.filter λe=>Nat.ble n e.1)++(h.filter λe=>Nat.blt e.1 n))=λi=>if n<=i.1 then hget h' i else hget h i:=by
 funext i
 unfold hget
 by_cases hi:n<=i.1
 .rw[x12c hi,xrj]
  .intro e he
   rw[x130]at he
   have:=x145 he.2
   omega
  .intro l;exact Nat.ble_eq_true_of_le hi
 .rw[x12b hi,xw2]
  .have:row1 (List.filter (λe=>e.fst.blt n) h++[]) i.1=row1 h i.1:=xrj (λe he=>by cases he) (λl=>Nat.ble_eq_true_of_le (by omega))
   rw[x13y]at this
   rw[this]
  .intro e he
   rw[x130]at he
   have:=x145 he.2
   omega
def Mono(A:Nat->Hs):Prop:=∀n m,n<=m->HLe (A n) (A m)
def Under(hs:FHs)(A:Nat->Hs):Prop:=∀id h,xnk hs id=some h->∀args m m',h args m=some m'->∃n g,hsAt (A n) id=some g/\g args m.st=some m'.st
def Nil:Nat->Hs:=λ_=>[]
theorem Mono.nil:Mono Nil:=λ_ _ _=>trivial
theorem Under.nil:Under [] Nil:=λ_ _ h=>by simp[xnk]at h
theorem Under.shift{hs:FHs}{A:Nat->Hs}(hm:Mono A)(h:Under hs A):Under hs λn=>A (n+1):=by
 intro id g hg args m m' e
 obtain⟨n,g',h1,h2⟩:=h id g hg args m m' e
 obtain⟨g2,h3,h4⟩:=xsg (hm n (n+1) (by omega)) h1
 exact⟨n,g2,h3,h4 _ _ _ h2⟩
def xoh(P:Program)(pol:Pol)(call:xk3):Prop:=∀hs A f args m r m',Mono A->Under hs A->call hs f args m=some (r,m')->∃n,xla P pol n (A n) f args m.st=some (r,m'.st)
theorem callLe{n m:Nat}(h:n<=m):xp3 (xla P pol n) (xla P pol m):=body_le (xmv h)
theorem fxInv_ok(hc:xoh P pol call){hs:FHs}{A:Nat->Hs}(hm:Mono A)(hu:Under hs A){mode:Nat}{fv:AV}{args:List AV}{m m':Mem}{r:AV}(h:xlx call hs mode fv args m=some (r,m')):∃n,xlp (xla P pol n) (A n) mode fv args m.st=some (r,m'.st):=by
 cases fv with
 |clo f caps=>
  simp only[xlx]at h
  split at h
  .unfold xk4 at h
   split at h
   .rename_i l' e1
    split at h
    .rename_i r0 m0 e2
     rw[x12i]at h
     obtain⟨r1,h1,h2⟩:=h
     cases h2
     obtain⟨n,hn⟩:=hc _ _ _ _ _ _ _ Mono.nil Under.nil e2
     refine⟨n,?_⟩
     have e1':(args++caps).mapM (frz m.st.objs deep)=some l':=e1
     have hn':xla P pol n [] f l' xn3=some (r0,m0.st):=hn
     have h1':frz m0.st.objs deep r0=some r:=h1
     simp only[xlp,e1',hn',h1',Option.map_some]
     rw[show(Mem.mk (xn9 ((args++caps).flatMap (xkh m.get deep)) m.hp) m.next).st={m.st with objs:=shut ((args++caps).flatMap (xkh m.st.objs deep)) m.st.objs}from by
      simp only[Mem.st,Mem.get]
      congr 1
      exact xri _ _]
    .cases h
   .cases h
  .unfold sCall3 at h
   split at h
   .rename_i l' e1
    split at h
    .rename_i r0 m0 e2
     split at h
     .rename_i e3
      cases h
      obtain⟨n,hn⟩:=hc _ _ _ _ _ _ _ Mono.nil Under.nil e2
      refine⟨n,?_⟩
      have e1':(args++caps).mapM (frz m.st.objs deep)=some l':=e1
      have hn':xla P pol n [] f l' xn3=some (r,m0.st):=hn
      simp only[xlp,e1',hn',x12c e3]
     .cases h
    .cases h
   .cases h
  .unfold sCall4 at h
   split at h
   .rename_i l' e1
    split at h
    .rename_i r0 m0 e2
     split at h
     .rename_i e3
      cases h
      obtain⟨n,hn⟩:=hc _ _ _ _ _ _ _ Mono.nil Under.nil e2
      refine⟨n,?_⟩
      have e1':(args++caps).mapM (frz m.st.objs deep)=some l':=e1
      have hn':xla P pol n [] f l' {objs:=λ_=>none,next:=m.next}=some (r,m0.st):=hn
      simp only[xlp]
      rw[e1']
      simp only
      rw[show({objs:=λ_=>none,next:=m.st.next}:St)={objs:=λ_=>none,next:=m.next}from rfl,hn']
      simp only
      split
      case isFalse hno=>exact absurd e3 hno
      have hk:∀i∈xkh m0.get deep r,∃o,hget m0.hp i=some o:=by
       intro j hj
       rw[x12h]at e3
       have:=x12k.mp e3.2 j hj
       rw[x12h]at this
       revert this
       show _/\(match hget m0.hp j with|some (.row cs _ false)=>cs.all isSc|_=>false)=true->_
       rintro⟨-,h4⟩
       cases e:hget m0.hp j with
       |none=>rw[e]at h4;cases h4
       |some o=>exact⟨o,rfl⟩
      congr 2
      simp only[Mem.st,Mem.get]
      congr 1
      funext i
      exact(xw1 _ _ _ hk i).symm
     .cases h
    .cases h
   .cases h
  .unfold xna at h
   split at h
   .rename_i e1
    split at h
    .rename_i r0 m0 e2
     cases h
     obtain⟨n,hn⟩:=hc _ _ _ _ _ _ _ Mono.nil Under.nil e2
     refine⟨n,?_⟩
     have hn':xla P pol n [] f (args++caps) {objs:=λ_=>none,next:=m.next}=some (r,m0.st):=hn
     simp only[xlp,x12c e1]
     rw[show({objs:=λ_=>none,next:=m.st.next}:St)={objs:=λ_=>none,next:=m.next}from rfl,hn']
     simp only[Mem.st]
     congr 2
     exact congrArg (St.mk · _) (xw3 m0.hp m.hp m.next).symm
    .cases h
   .cases h
  .rename_i h0 h3 h4 h1
   obtain⟨n,hn⟩:=hc _ _ _ _ _ _ _ hm hu h
   refine⟨n,?_⟩
   have key:∀mode:Nat,(mode=0->False)->(mode=3->False)->(mode=4->False)->(mode=1->False)->xlp (xla P pol n) (A n) mode (.clo f caps) args m.st=xla P pol n (A n) f (args++caps) m.st:=by
    intro mode a b c d
    unfold xlp
    split<;>first|rfl|(exact(a rfl).elim)|(exact(b rfl).elim)|(exact(c rfl).elim)|(exact(d rfl).elim)|skip
    split<;>first|rfl|(exact(a rfl).elim)|(exact(b rfl).elim)|(exact(c rfl).elim)|(exact(d rfl).elim)|simp_all
    all_goals simp_all
   rw[key mode h0 h3 h4 h1]
   exact hn
 |yld id=>
  simp only[xlx]at h
  split at h
  .rename_i g e
   rw[x12i]at h
   obtain⟨m1,h1,h2⟩:=h
   cases h2
   obtain⟨n,g',h3,h4⟩:=hu _ _ e _ _ _ h1
   exact⟨n,by simp only[xlp,h3,h4,Option.map_some];rfl⟩
  .cases h
 |_=>simp[xlx]at h
def FCtx.c(c:FCtx)(hs:Hs):Ctx:={f:=c.f,u:=c.u,nt:=c.nt,hs:=hs}
theorem xtb{ops:Array Oper}{o:Oper}{sl:Nat->AV}:xms ops o sl=xrc ops o.guard sl:=by
 unfold xms xrc
 cases o.guard with
 |none=>rfl
 |some g=>
  obtain⟨j,w⟩:=g
  simp only
  cases(ops[j]?).bind (·.dst)with
  |none=>rfl
  |some t=>simp only[sW];rfl
theorem xtc{c:FCtx}{hs:Hs}{dst:Option Tmp}{v:AV}{s:Fs}{k:Fs->Option R}{r:R}(h:fput c.nt dst v s k=some r):∃s',put (c.c hs) dst v s.s=some s'.s/\k s'=some r/\s'.fc=s.fc/\s'.m=s.m:=by
 unfold fput at h
 split at h
 .rename_i d
  cases hd:Nat.blt d c.nt with
  |false=>rw[hd]at h;cases h
  |true=>
   rw[hd]at h
   exact⟨_,by simp only[put];rw[x12c (show d<(c.c hs).nt from x145 hd)];rfl,h,rfl,rfl⟩
 .exact⟨s,rfl,h,rfl,rfl⟩
theorem fop_ok(hc:xoh P pol call){c:FCtx}{A:Nat->Hs}(hm:Mono A)(hu:Under c.hs A){ops:Array Oper}{i:Nat}{o:Oper}(ho:ops[i]?=some o){s:Fs}{k:AV->Mem->Option R}{r:R}(h:fxOp P pol call c (c.u,s.fc+i,o.dst.getD 0) o s.sl s.m k=some r)(hw:xms ops o s.sl=true) :
 ∃v m',k v m'=some r/\∃n,∀s1,put (c.c (A n)) o.dst v {s with m:=m' }.s=some s1->xll P pol (xla P pol n) (c.c (A n)) ops i s.s=some s1:=by
 by_cases hn:xky o=true
 .obtain⟨dst,op,type,pos,after,guard⟩:=o
  cases op with
  |call cl=>
   obtain⟨callee,args,argTypes⟩:=cl
   cases callee with
   |value fv=>
    simp only[fxOp]at h
    rw[x13x]at h
    obtain⟨⟨v,m'⟩,h1,h2⟩:=h
    obtain⟨n,hn⟩:=fxInv_ok hc hm hu h1
    refine⟨v,m',h2,n,λs1 hp=>?_⟩
    unfold xll
    rw[ho]
    simp only
    have hw':xms ops {dst:=dst,op:=Op.call {callee:=Callee.value fv,args:=args,argTypes:=argTypes},type:=type,pos:=pos,after:=after,guard:=guard} s.s.sl=true:=hw
    rw[x12c hw']
    have hn':xlp (xla P pol n) (c.c (A n)).hs (pol (c.c (A n)).f (dst.getD 0)) (ev s.s.sl fv) (args.toList.map (ev s.s.sl)) s.s.st=some (v,m'.st):=hn
    rw[hn']
    exact hp
   |_=>simp[xky]at hn
  |_=>simp[xky]at hn
 .have hn':xky o=false:=by simpa using hn
  obtain⟨v,m',h1,h2,h3⟩:=fxOp_ok hn' h
  refine⟨v,m',h3,0,λs1 hp=>?_⟩
  unfold xll
  rw[ho]
  simp only
  have hw':xms ops o s.s.sl=true:=hw
  rw[x12c hw']
  have h1':ixOp P ((c.c (A 0)).u,s.s.fc+i,o.dst.getD 0) o s.s.sl s.s.st.objs=some (v,m'.get):=h1
  have hp':put (c.c (A 0)) o.dst v {s.s with st:={s.s.st with objs:=m'.get}}=some s1:=by
   have:({s with m:=m' }:Fs).s={s.s with st:={s.s.st with objs:=m'.get}}:=by
    simp only[Fs.s,Mem.st,h2]
   rw[<-this];exact hp
  split
  .rename_i fv args at' e
   have:xky o=true:=by simp only[xky,e]
   rw[this]at hn';cases hn'
  .rw[h1']
   exact hp'
theorem fstep_ok(hc:xoh P pol call){c:FCtx}{A:Nat->Hs}(hm:Mono A)(hu:Under c.hs A){ops:Array Oper}{i:Nat}{s:Fs}{k:Fs->Option R}{r:R}(h:fxStep P pol call c ops i s k=some r):∃s',k s'=some r/\s'.fc=s.fc/\∃n,xll P pol (xla P pol n) (c.c (A n)) ops i s.s=some s'.s:=by
 unfold fxStep at h
 split at h
 .rename_i e
  exact⟨s,h,rfl,0,by unfold xll;rw[e]⟩
 .rename_i o e
  split at h
  .rename_i hg
   obtain⟨v,m',h1,n,h2⟩:=fop_ok hc hm hu e h (by rw[xtb,hg];rfl)
   obtain⟨s',h3,h4,h5,h6⟩:=xtc (hs:=A n) h1
   exact⟨s',h4,h5,n,h2 _ h3⟩
  .rename_i g hg
   rw[x13x]at h
   obtain⟨⟨v,m'⟩,h1,h2⟩:=h
   cases hw:xrc ops (some g) s.sl with
   |true=>
    rw[hw,cond_true]at h1
    obtain⟨v1,m1,h3,n,h4⟩:=fop_ok hc hm hu e h1 (by rw[xtb,hg];exact hw)
    cases h3
    obtain⟨s',h5,h6,h7,h8⟩:=xtc (hs:=A n) h2
    exact⟨s',h6,h7,n,h4 _ h5⟩
   |false=>
    rw[hw,cond_false]at h1
    cases h1
    obtain⟨s',h5,h6,h7,h8⟩:=xtc (hs:=A 0) h2
    refine⟨s',h6,h7,0,?_⟩
    unfold xll
    rw[e]
    simp only
    rw[x12b (by rw[show s.s.sl=s.sl from rfl,xtb,hg,hw];simp)]
    exact h5
theorem frun_ok(hc:xoh P pol call){c:FCtx}{A:Nat->Hs}(hm:Mono A)(hu:Under c.hs A){ops:Array Oper}:∀{L:List Nat} {s:Fs} {k:Fs->Option R} {r:R},
 fxRun P pol call c ops L s k=some r->∃s',k s'=some r/\s'.fc=s.fc/\∃n,xli P pol (xla P pol n) (c.c (A n)) ops L s.s=some s'.s
 |[],s,k,r,h=>⟨s,h,rfl,0,rfl⟩
 |i::L,s,k,r,h=>by
  obtain⟨s1,h1,h2,n1,h3⟩:=fstep_ok hc hm hu h
  obtain⟨s2,h4,h5,n2,h6⟩:=frun_ok hc hm hu h1
  refine⟨s2,h4,h5.trans h2,max n1 n2,?_⟩
  have q1:=step_le (callLe (P:=P) (pol:=pol) (Nat.le_max_left n1 n2)) (hm n1 (max n1 n2) (Nat.le_max_left ..)) h3
  have q2:=run_le (callLe (P:=P) (pol:=pol) (Nat.le_max_right n1 n2)) (hm n2 (max n1 n2) (Nat.le_max_right ..)) h6
  simp only[xli]
  have q1':xll P pol (xla P pol (max n1 n2)) (c.c (A (max n1 n2))) ops i s.s=some s1.s:=q1
  rw[q1']
  exact q2
theorem xtd{id0:Id}{o:Oper}{sl:Nat->AV}:tch id0 o sl=xko id0 o sl:=by
 obtain⟨dst,op,type,pos,after,guard⟩:=o
 unfold tch
 cases op with
 |load t a=>rfl
 |store t a x=>rfl
 |slice t x lo hi mx=>rfl
 |lookup t x ix ok=>rfl
 |call cl=>
  obtain⟨callee,args,argTypes⟩:=cl
  simp only
  split
  .rename_i s x e2
   simp only[xko,e2];rfl
  .rename_i s x e2
   simp only[xko,e2];rfl
  .rfl
 |_=>rfl
theorem xte{mode:Nat}{o:Oper}{sl:Nat->AV}:mkO mode o sl=meek mode o sl:=by
 obtain⟨dst,op,type,pos,after,guard⟩:=o
 cases op with
 |call cl=>
  obtain⟨callee,args,argTypes⟩:=cl
  cases callee with
  |value fv=>rfl
  |_=>rfl
 |_=>rfl
theorem meek_le{mode:Nat}{o:Oper}{sl:Nat->AV}:meek mode o sl<=2:=by
 rw[<-xte]
 unfold mkO mkD mkM
 split
 .split
  .split
   .split
    .omega
    .split<;>omega
   .omega
  .omega
 .omega
theorem cAp_ok{mode:Nat}{lim:Option Nat}{id0:Id}{x y:Oper}{sl:Nat->AV}(hy:xky y=false)(h:cAp lim (tch id0 y sl) (mkO mode x sl)=true):xn4 mode lim id0 x y sl=true:=by
 unfold xn4
 rw[xtd,xte]at h
 rw[hy]
 simp only[x13n,x13l]
 unfold cAp at h
 split at h
 .rename_i r ws e
  rw[e]
  simp only
  rw[x12h]at h ⊢
  refine⟨?_,?_⟩
  .have h1:=h.1
   cases lim with
   |none=>rfl
   |some n=>
    simp only at h1 ⊢
    rw[x12k]at h1 ⊢
    intro i hi
    exact x13e (x145 (h1 i hi))
  .have h2:=h.2
   rw[x13u,x12h]at h2 ⊢
   rcases h2 with h2|⟨h2,h3⟩
   .exact Or.inl (by rw[x12u h2];rfl)
   .exact Or.inr ⟨by rw[x12u h2];rfl,h3⟩
 .cases h
theorem xyx{c:FCtx}{hs:Hs}{fc next0:Nat}{ops:Array Oper}{i j:Nat}{sl:Nat->AV}(h:xrd pol c.f c.u fc next0 ops i j sl=true):pairOK pol (c.c hs) fc next0 ops i j sl=true:=by
 unfold xrd at h
 unfold pairOK
 split at h
 .rename_i x y e1 e2
  rw[e1,e2]
  simp only
  rw[x12h]at h ⊢
  refine⟨h.1,?_⟩
  have h2:=h.2
  split at h2
  .rename_i hx
   rw[x12c hx]
   rw[x12h]at h2
   exact cAp_ok (by simpa using h2.1) h2.2
  .rename_i hx
   rw[x12b hx]
   split at h2
   .rename_i hy
    rw[x12c hy]
    exact cAp_ok (by simpa using hx) h2
   .rename_i hy
    rw[x12b hy]
    rw[xtd,xtd]at h2
    exact h2
 .cases h
theorem xqn{id0:Id}{o:Oper}{sl:Nat->AV}(h:xmj o.op=true):xko id0 o sl=(some [],some []):=by
 obtain⟨dst,op,type,pos,after,guard⟩:=o
 cases op with
 |call cl=>
  obtain⟨callee,args,argTypes⟩:=cl
  cases callee with
  |builtin b=>cases b<;>first|rfl|(simp[xmj]at h)
  |_=>simp[xmj]at h
 |_=>first|rfl|(simp[xmj]at h)
theorem xw4{id0:Id}{o:Oper}{sl:Nat->AV}(h:wNone o.op=true):∃r,xko id0 o sl=(some r,some []):=by
 unfold wNone at h
 rw[x13u]at h
 rcases h with h|h
 .exact⟨[],xqn h⟩
 .obtain⟨dst,op,type,pos,after,guard⟩:=o
  cases op with
  |load t a=>simp only[xko];split<;>exact⟨_,rfl⟩
  |slice t x lo hi mx=>simp only[xko];split<;>exact⟨_,rfl⟩
  |lookup t x ix ok=>simp only[xko];split<;>exact⟨_,rfl⟩
  |_=>simp at h
theorem stFine_ok{c:FCtx}{hs:Hs}{fc next0:Nat}{ops:Array Oper}{i j:Nat}{sl:Nat->AV}(h:xre ops i j=true)(hmk:∀x y,ops[i]?=some x->ops[j]?=some y->(xky x=true->xmj y.op=true->1<=meek (pol c.f (x.dst.getD 0)) x sl)/\(xky y=true->xmj x.op=true->1<=meek (pol c.f (y.dst.getD 0)) y sl)) :
 pairOK pol (c.c hs) fc next0 ops i j sl=true:=by
 unfold xre at h
 unfold pairOK
 split at h
 .rename_i x y e1 e2
  obtain⟨hm1,hm2⟩:=hmk x y e1 e2
  rw[e1,e2]
  simp only
  rw[x12h]at h ⊢
  refine⟨h.1,?_⟩
  have meek12:∀{mode:Nat} {x:Oper},1<=meek mode x sl->(meek mode x sl == 2||(meek mode x sl == 1&&([]:List Id).isEmpty))=true:=by
   intro mode x h1
   have:=meek_le (mode:=mode) (o:=x) (sl:=sl)
   have:meek mode x sl=1\/meek mode x sl=2:=by omega
   rcases this with e|e<;>rw[e]<;>rfl
  have h2:=h.2
  rw[x13u]at h2
  rcases h2 with h2|h2
  .rw[x12h,x12h]at h2
   obtain⟨⟨hx,hy⟩,h3⟩:=h2
   rw[x12b (by simpa using hx),x12b (by simpa using hy)]
   rw[x13u,x13u,x12h]at h3
   rcases h3 with (h3|h3)|⟨h3,h4⟩
   .rw[xqn h3];rfl
   .rw[xqn h3];unfold xk8;split<;>simp_all
   .obtain⟨r1,q1⟩:=xw4 (id0:=((c.c hs).u,fc+i,x.dst.getD 0)) (sl:=sl) h3
    obtain⟨r2,q2⟩:=xw4 (id0:=((c.c hs).u,fc+j,y.dst.getD 0)) (sl:=sl) h4
    rw[q1,q2]
    unfold xk8
    split
    .rfl
    .rfl
    .rename_i e3 e4
     cases e3;cases e4
     simp[disj]
    .rename_i n1 n2 n3
     exact(n3 _ _ _ _ rfl rfl).elim
  .unfold ncPair at h2
   rw[x13u,x12h,x12h,x12h,x12h]at h2
   rcases h2 with ⟨⟨h3,h4⟩,h5⟩|⟨⟨h3,h4⟩,h5⟩
   .rw[x12c h3]
    unfold xn4
    rw[h4,xqn h5]
    simp only[x13l,x13y,x14l]
    exact meek12 (hm1 h3 h5)
   .have hx:xky x=false:=by simpa using h4
    rw[x12b (by rw[hx];simp),x12c h3]
    unfold xn4
    rw[hx,xqn h5]
    simp only[x13n,x13l]
    exact meek12 (hm2 h3 h5)
 .cases h
theorem xtf{f:Nat}{ops:Array Oper}{sl:Nat->AV}:∀{l:List Nat},xpc pol f ops sl l=true->∀j∈l,∃o,ops[j]?=some o/\1<=meek (pol f (o.dst.getD 0)) o sl
 |[],_,j,hj=>by cases hj
 |a::l,h,j,hj=>by
  simp only[xpc,x12h]at h
  rcases x12q.mp hj with rfl|hj
  .have h1:=h.1
   split at h1
   .rename_i o e
    rw[xte]at h1
    exact⟨o,e,x145 h1⟩
   .cases h1
  .exact xtf h.2 j hj
theorem xw5{f u fc next0:Nat}{ops:Array Oper}{sl:Nat->AV}:∀{l:List (Nat×Nat)},xnw pol f u fc next0 ops sl l=true->∀p∈l,xrd pol f u fc next0 ops p.1 p.2 sl=true
 |[],_,p,hp=>by cases hp
 |(i,j)::l,h,p,hp=>by
  simp only[xnw,x12h]at h
  rcases x12q.mp hp with rfl|hp
  .exact h.1
  .exact xw5 h.2 p hp
theorem fdraw_ok{c:FCtx}{hs:Hs}{fc next0:Nat}{ops:Array Oper}{sl:Nat->AV}(h1:xrf ops=true)(h2:xpc pol c.f ops sl (xqk ops)=true)(h3:xnw pol c.f c.u fc next0 ops sl (xps ops)=true) :
 xp1 pol (c.c hs) fc next0 ops sl=true:=by
 unfold xp1
 unfold xrf at h1
 simp only at h1 ⊢
 rw[x12k]at h1 ⊢
 intro j hj
 have h1j:=h1 j hj
 rw[x12h,x12h]at h1j ⊢
 refine⟨h1j.1,?_⟩
 have h4:=h1j.2
 rw[x12k]at h4 ⊢
 intro i hi
 rw[x12h]
 refine⟨h4 i hi,?_⟩
 rw[x13u]
 by_cases hb:((befs ops).getD j []).contains i=true
 .exact Or.inl hb
 .right
  by_cases hf:xre ops i j=true
  .refine stFine_ok hf λx y e1 e2=>?_
   have hij:i<j:=x132.mp hi
   have hjn:j<ops.size:=x132.mp hj
   have hbi:((befs ops).getD i []).contains j=false:=by
    have:=h1 i (x132.mpr (by omega))
    rw[x12h,x12h]at this
    have h5:=this.1.2
    rw[x12k]at h5
    rw[x13d]
    intro hc
    have:=h5 j (x16v.mp hc)
    have:=x14a this
    omega
   have hn:∀o,xky o=true->xmj o.op=true->False:=by
    intro o a b
    obtain⟨dst,op,type,pos,after,guard⟩:=o
    cases op with
    |call cl=>
     obtain⟨callee,args,argTypes⟩:=cl
     cases callee<;>simp[xky,xmj]at a b
    |_=>simp[xky]at a
   refine⟨λhx hy=>?_,λhy hx=>?_⟩
   .obtain⟨o,e3,e4⟩:=xtf h2 i (by
     unfold xqk
     simp only[x130,x132]
     refine⟨by omega,?_⟩
     rw[x12h,e1]
     refine⟨hx,?_⟩
     rw[x15l]
     refine⟨j,hj,?_⟩
     rw[e2]
     have hyc:xky y=false:=by
      rw[x13d];exact λe=>hn y e hy
     simp only[hyc,hy,hbi,x13n,x13l]
     simpa using hb)
    rw[e1]at e3;cases e3;exact e4
   .obtain⟨o,e3,e4⟩:=xtf h2 j (by
     unfold xqk
     simp only[x130,x132]
     refine⟨by omega,?_⟩
     rw[x12h,e2]
     refine⟨hy,?_⟩
     rw[x15l]
     refine⟨i,x132.mpr (by omega),?_⟩
     rw[e1]
     have hxc:xky x=false:=by
      rw[x13d];exact λe=>hn x e hx
     simp only[hxc,hx,hbi,x13n,x13l,x15a]
     simpa using hb)
    rw[e2]at e3;cases e3;exact e4
  .refine xyx (xw5 h3 (i,j) ?_)
   unfold xps
   simp only[x13v,x12r,x130]
   refine⟨j,hj,i,⟨hi,?_⟩,rfl⟩
   simp only[x16w]at hf hb
   simp only[hf,hb,Bool.or_self,x13n]
theorem freg_ok(hc:xoh P pol call){c:FCtx}{A:Nat->Hs}(hm:Mono A)(hu:Under c.hs A){ops:Array Oper}{draw:Bool}{s:Fs}{k:Fs->Option R}{r:R}(h:fxReg P pol call c ops draw s k=some r):∃s',k s'=some r/\∃n,xmt P pol (xla P pol n) (c.c (A n)) ops draw s.s=some s'.s:=by
 unfold fxReg at h
 obtain⟨s1,h1,h2,n,h3⟩:=frun_ok hc hm hu h
 cases draw with
 |false=>
  refine⟨{s1 with fc:=s.fc+ops.size},h1,n,?_⟩
  unfold xmt
  rw[h3]
  rfl
 |true=>
  rw[cond_true]at h1
  cases hml:xp2 P ops with
  |true=>rw[hml]at h1;cases h1
  |false=>
  cases hd:xrf ops with
  |false=>rw[hml,hd]at h1;cases h1
  |true=>
   rw[hml,hd,x13n,x13l,cond_true]at h1
   have key:xpc pol c.f ops s1.sl (xqk ops)=true->xnw pol c.f c.u s.fc s.m.next ops s1.sl (xps ops)=true->k {s1 with fc:=s.fc+ops.size}=some r->∃s',k s'=some r/\∃n,xmt P pol (xla P pol n) (c.c (A n)) ops true s.s=some s'.s:=by
    intro a b e
    refine⟨_,e,n,?_⟩
    unfold xmt
    rw[h3]
    simp only
    have hdr:xp1 pol (c.c (A n)) s.s.fc s.s.st.next ops s1.s.sl=true:=fdraw_ok hd a b
    rw[hdr,hml]
    rfl
   split at h1
   .rename_i e1
    split at h1
    .rename_i e2
     exact key (by rw[e1];rfl) (by rw[e2];rfl) h1
    .rename_i p q e2
     cases hy:xnw pol c.f c.u s.fc s.m.next ops s1.sl (p::q)with
     |false=>rw[hy]at h1;cases h1
     |true=>rw[hy]at h1;exact key (by rw[e1];rfl) (by rw[e2];exact hy) h1
   .rename_i a b e1
    cases hy:(xpc pol c.f ops s1.sl (a::b)&&xnw pol c.f c.u s.fc s.m.next ops s1.sl (xps ops))with
    |false=>rw[hy]at h1;cases h1
    |true=>
     rw[hy]at h1
     rw[x12h]at hy
     exact key (by rw[e1];exact hy.1) hy.2 h1
end Go.Ix
