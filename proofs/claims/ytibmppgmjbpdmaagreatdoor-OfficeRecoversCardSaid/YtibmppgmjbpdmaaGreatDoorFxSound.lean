import Derived.Test.YtibmppgmjbpdmaaGreatDoorFxOps
set_option linter.unusedSimpArgs false
set_option linter.unusedVariables false
namespace Go.Ix
variable{P:Program}{pol:Pol}{call:x14p}{R:Type}
theorem shut1_get(h:Hp)(i j:Id):hget (shut1 h i) j=shut [i] (hget h) j:=by
 unfold shut1 shut
 by_cases hj:j=i
 .subst hj
  rw[x1p0 (x1rm.mpr rfl)]
  cases e:hget h j with
  |none=>simp[e]
  |some o=>
   cases o with
   |map es=>simp[e]
   |lp d=>simp[e]
   |bld t e l=>simp[e]
   |row cs v f=>
    cases f with
    |true=>simp[e]
    |false=>simp[x1bf]
 .rw[x1oz (by simpa using hj)]
  split
  .rw[x1bf,x1oz hj]
  .rfl
theorem x1ej:∀(ids:List Id) (h:Hp),hget (x19x ids h)=shut ids (hget h)
 |[],h=>by funext i;simp[x19x,shut]
 |i::r,h=>by
  funext j
  rw[x19x,x1ej r]
  have h1:=shut1_get h i j
  unfold shut at h1 ⊢
  rw[h1]
  by_cases hj:j=i
  .subst hj
   simp only[x1rm,x1pk,x1pd,true_or]
   cases e:hget h j with
   |none=>simp
   |some o=>
    cases o with
    |map es=>simp
    |lp d=>simp
    |bld t e l=>simp
    |row cs v f=>simp
  .simp[hj]
theorem x1ek(h':Hp):∀(ids:List Id) (h:Hp),(∀i∈ids,∃o,hget h' i=some o)->∀j,hget (keepH h' ids h) j=if j∈ids then hget h' j else hget h j
 |[],h,_,j=>by simp[keepH]
 |i::r,h,hi,j=>by
  obtain⟨o,ho⟩:=hi i (x1pp ..)
  simp only[keepH,ho]
  rw[x1ek h' r _ λx hx=>hi x (x1p7 _ hx)]
  simp only[x1pd,x1bf]
  by_cases hj:j∈r
  .simp[hj]
  .by_cases hji:j=i
   .subst hji;simp[hj,ho]
   .simp[hj,hji]
theorem row1_nil{h:Hp}{u:Nat}(hn:∀e∈h,e.1≠u):row1 h u=[]:=by
 induction h with
 |nil=>rfl
 |cons e r ih=>
  obtain⟨v,l⟩:=e
  simp only[row1]
  have:Nat.beq v u=false:=by
   rw[x1pv];intro x;exact hn _ (x1pp ..) (x1p8 x)
  rw[this]
  exact ih λe he=>hn e (x1p7 _ he)
theorem x1bh{p:Nat×List (Nat×Nat×Ob)->Bool}{u:Nat}{t:Hp}(ht:∀e∈t,e.1≠u):∀{h:Hp},(∀l,p (u,l)=true)->row1 (h.filter p++t) u=row1 h u
 |[],_=>row1_nil ht
 |(v,l)::r,hp=>by
  simp only[x1sm]
  by_cases hv:v=u
  .subst hv
   rw[x1p0 (hp l)]
   simp[row1]
  .have hb:Nat.beq v u=false:=by
    rw[x1pv];intro x;exact hv (x1p8 x)
   split
   .simp only[x1q4,row1,hb,cond_false];exact x1bh ht hp
   .simp only[row1,hb,cond_false];exact x1bh ht hp
theorem x1el{u:Nat}{t:Hp}:∀{h:Hp},(∀e∈h,e.1≠u)->row1 (h++t) u=row1 t u
 |[],_=>rfl
 |(v,l)::r,hn=>by
  have hb:Nat.beq v u=false:=by
   rw[x1pv];intro x;exact hn _ (x1pp ..) (x1p8 x)
  simp only[x1q4,row1,hb,cond_false]
  exact x1el λe he=>hn e (x1p7 _ he)
theorem x1em(h' h:Hp)(n:Nat):hget ((h'.filter λe=>Nat.ble n e.1)++(h.filter λe=>Nat.blt e.1 n))=λi=>if n<=i.1 then hget h' i else hget h i:=by
 funext i
 unfold hget
 by_cases hi:n<=i.1
 .rw[x1p0 hi,x1bh]
  .intro e he
   rw[x1pz]at he
   have:=x1qd he.2
   omega
  .intro l;exact x1rn hi
 .rw[x1oz hi,x1el]
  .have:row1 (List.filter (λe=>e.fst.blt n) h++[]) i.1=row1 h i.1:=x1bh (λe he=>by cases he) (λl=>x1rn (by omega))
   rw[x1qy]at this
   rw[this]
  .intro e he
   rw[x1pz]at he
   have:=x1qd he.2
   omega
def Mono(A:Nat->Hs):Prop:=∀n m,n<=m->HLe (A n) (A m)
def Under(hs:FHs)(A:Nat->Hs):Prop:=∀id h,x17t hs id=some h->∀args m m',h args m=some m'->∃n g,hsAt (A n) id=some g/\g args m.st=some m'.st
def Nil:Nat->Hs:=λ_=>[]
theorem Mono.nil:Mono Nil:=λ_ _ _=>trivial
theorem Under.nil:Under [] Nil:=λ_ _ h=>by simp[x17t]at h
theorem Under.shift{hs:FHs}{A:Nat->Hs}(hm:Mono A)(h:Under hs A):Under hs λn=>A (n+1):=by
 intro id g hg args m m' e
 obtain⟨n,g',h1,h2⟩:=h id g hg args m m' e
 obtain⟨g2,h3,h4⟩:=x1cg (hm n (n+1) (by omega)) h1
 exact⟨n,g2,h3,h4 _ _ _ h2⟩
def x18d(P:Program)(pol:Pol)(call:x14p):Prop:=∀hs A f args m r m',Mono A->Under hs A->call hs f args m=some (r,m')->∃n,x15o P pol n (A n) f args m.st=some (r,m'.st)
theorem callLe{n m:Nat}(h:n<=m):x18t (x15o P pol n) (x15o P pol m):=body_le (x17a h)
theorem x1en(hc:x18d P pol call){hs:FHs}{A:Nat->Hs}(hm:Mono A)(hu:Under hs A){mode:Nat}{fv:AV}{args:List AV}{m m':Mem}{r:AV}(h:x166 call hs mode fv args m=some (r,m')):∃n,x15r (x15o P pol n) (A n) mode fv args m.st=some (r,m'.st):=by
 cases fv with
 |clo f caps=>
  simp only[x166]at h
  split at h
  .unfold x14q at h
   split at h
   .rename_i l' e1
    split at h
    .rename_i r0 m0 e2
     rw[x1p3]at h
     obtain⟨r1,h1,h2⟩:=h
     cases h2
     obtain⟨n,hn⟩:=hc _ _ _ _ _ _ _ Mono.nil Under.nil e2
     refine⟨n,?_⟩
     have e1':(args++caps).mapM (frz m.st.objs deep)=some l':=e1
     have hn':x15o P pol n [] f l' x170=some (r0,m0.st):=hn
     have h1':frz m0.st.objs deep r0=some r:=h1
     simp only[x15r,e1',hn',h1',Option.map_some]
     rw[show(Mem.mk (x19x ((args++caps).flatMap (x14y m.get deep)) m.hp) m.next).st={m.st with objs:=shut ((args++caps).flatMap (x14y m.st.objs deep)) m.st.objs}from by
      simp only[Mem.st,Mem.get]
      congr 1
      exact x1ej _ _]
    .cases h
   .cases h
  .unfold x17c at h
   split at h
   .rename_i l' e1
    split at h
    .rename_i r0 m0 e2
     split at h
     .rename_i e3
      cases h
      obtain⟨n,hn⟩:=hc _ _ _ _ _ _ _ Mono.nil Under.nil e2
      refine⟨n,?_⟩
      have e1':(args++caps).mapM (frz m.st.objs deep)=some l':=e1
      have hn':x15o P pol n [] f l' x170=some (r,m0.st):=hn
      simp only[x15r,e1',hn',x1p0 e3]
     .cases h
    .cases h
   .cases h
  .unfold sCall4 at h
   split at h
   .rename_i l' e1
    split at h
    .rename_i r0 m0 e2
     split at h
     .rename_i e3
      cases h
      obtain⟨n,hn⟩:=hc _ _ _ _ _ _ _ Mono.nil Under.nil e2
      refine⟨n,?_⟩
      have e1':(args++caps).mapM (frz m.st.objs deep)=some l':=e1
      have hn':x15o P pol n [] f l' {objs:=λ_=>none,next:=m.next}=some (r,m0.st):=hn
      simp only[x15r]
      rw[e1']
      simp only
      rw[show({objs:=λ_=>none,next:=m.st.next}:St)={objs:=λ_=>none,next:=m.next}from rfl,hn']
      simp only
      split
      case isFalse hno=>exact absurd e3 hno
      have hk:∀i∈x14y m0.get deep r,∃o,hget m0.hp i=some o:=by
       intro j hj
       rw[x1p4]at e3
       have:=x1p5.mp e3.2 j hj
       rw[x1p4]at this
       revert this
       show _/\(match hget m0.hp j with|some (.row cs _ false)=>cs.all isSc|_=>false)=true->_
       rintro⟨-,h4⟩
       cases e:hget m0.hp j with
       |none=>rw[e]at h4;cases h4
       |some o=>exact⟨o,rfl⟩
      congr 2
      simp only[Mem.st,Mem.get]
      congr 1
      funext i
      exact(x1ek _ _ _ hk i).symm
     .cases h
    .cases h
   .cases h
  .unfold x18v at h
   split at h
   .rename_i e1
    split at h
    .rename_i r0 m0 e2
     cases h
     obtain⟨n,hn⟩:=hc _ _ _ _ _ _ _ Mono.nil Under.nil e2
     refine⟨n,?_⟩
     have hn':x15o P pol n [] f (args++caps) {objs:=λ_=>none,next:=m.next}=some (r,m0.st):=hn
     simp only[x15r,x1p0 e1]
     rw[show({objs:=λ_=>none,next:=m.st.next}:St)={objs:=λ_=>none,next:=m.next}from rfl,hn']
     simp only[Mem.st]
     congr 2
     exact congrArg (St.mk · _) (x1em m0.hp m.hp m.next).symm
    .cases h
   .cases h
  .rename_i h0 h3 h4 h1
   obtain⟨n,hn⟩:=hc _ _ _ _ _ _ _ hm hu h
   refine⟨n,?_⟩
   have key:∀mode:Nat,(mode=0->False)->(mode=3->False)->(mode=4->False)->(mode=1->False)->x15r (x15o P pol n) (A n) mode (.clo f caps) args m.st=x15o P pol n (A n) f (args++caps) m.st:=by
    intro mode a b c d
    unfold x15r
    split<;>first|rfl|(exact(a rfl).elim)|(exact(b rfl).elim)|(exact(c rfl).elim)|(exact(d rfl).elim)|skip
    split<;>first|rfl|(exact(a rfl).elim)|(exact(b rfl).elim)|(exact(c rfl).elim)|(exact(d rfl).elim)|simp_all
    all_goals simp_all
   rw[key mode h0 h3 h4 h1]
   exact hn
 |yld id=>
  simp only[x166]at h
  split at h
  .rename_i g e
   rw[x1p3]at h
   obtain⟨m1,h1,h2⟩:=h
   cases h2
   obtain⟨n,g',h3,h4⟩:=hu _ _ e _ _ _ h1
   exact⟨n,by simp only[x15r,h3,h4,Option.map_some];rfl⟩
  .cases h
 |_=>simp[x166]at h
theorem nbeq{a b:Nat}(h:a≠b):Nat.beq a b=false:=by
 cases e:Nat.beq a b with
 |true=>exact absurd (x1p8 e) h
 |false=>rfl
theorem x1eo{u fc:Nat}:∀(h:Hp) (w:Nat),row1 (x19y u fc h) w=if w=u then(row1 h w).filter (λe=>Nat.blt e.1 fc)else row1 h w
 |[],w=>by simp[x19y,row1]
 |(v,l)::r,w=>by
  simp only[x19y]
  cases hv:Nat.beq v u with
  |true=>
   have e:=x1p8 hv
   subst e
   simp only[cond_true,row1]
   by_cases hw:w=v
   .subst hw;simp
   .have:Nat.beq v w=false:=nbeq (Ne.symm hw)
    simp[this,hw]
  |false=>
   have e:v≠u:=by intro e;subst e;simp at hv
   simp only[cond_false,row1,x1eo r w]
   cases hw:Nat.beq v w with
   |true=>
    have e2:=x1p8 hw
    subst e2
    simp[e]
   |false=>simp
theorem x1bi{fc s t:Nat}:∀(l:List (Nat×Nat×Ob)),row2 (l.filter λe=>Nat.blt e.1 fc) s t=if fc<=s then none else row2 l s t
 |[]=>by simp[row2]
 |(a,b,o)::r=>by
  rw[x1sm]
  cases ha:Nat.blt a fc with
  |true=>
   have h1:a<fc:=x1qd ha
   simp only[x1pk,row2,x1bi r]
   cases hc:Nat.beq a s&&Nat.beq b t with
   |true=>
    rw[x1p4]at hc
    have:=x1p8 hc.1
    simp[show ¬fc<=s by omega]
   |false=>simp
  |false=>
   have h1:¬a<fc:=λh=>by have:Nat.blt a fc=true:=x1rn h;rw[this]at ha;cases ha
   simp only[x1pj,x1p9,x1bi r,row2]
   by_cases hs:fc<=s
   .simp[hs]
   .rw[x1oz hs,x1oz hs]
    have:Nat.beq a s=false:=nbeq (by omega)
    simp[this]
theorem x1ci{fc s t:Nat}{B:List (Nat×Nat×Ob)}:∀(l:List (Nat×Nat×Ob)),row2 ((l.filter λe=>Nat.ble fc e.1)++B) s t=if fc<=s then(match row2 l s t with|some o=>some o|none=>row2 B s t)else row2 B s t
 |[]=>by simp[row2]
 |(a,b,o)::r=>by
  rw[x1sm]
  cases ha:Nat.ble fc a with
  |true=>
   have h1:fc<=a:=x1qd ha
   simp only[x1pk,x1q4,row2,x1ci r]
   cases hc:Nat.beq a s&&Nat.beq b t with
   |true=>
    rw[x1p4]at hc
    have:=x1p8 hc.1
    simp[show fc<=s by omega]
   |false=>simp
  |false=>
   have h1:¬fc<=a:=λh=>by have:Nat.ble fc a=true:=x1rn h;rw[this]at ha;cases ha
   simp only[x1pj,x1p9,x1ci r,row2]
   by_cases hs:fc<=s
   .have:Nat.beq a s=false:=nbeq (by omega)
    simp[this]
   .rw[x1oz hs,x1oz hs]
theorem x1a2{u fc:Nat}{i:Id}:hidB u fc i=true↔i.1=u/\fc<=i.2.1:=by
 unfold hidB
 rw[x1p4]
 exact⟨λh=>⟨x1p8 h.1,x1qd h.2⟩,λh=>⟨by rw[h.1];exact Nat.beq_refl _,x1rn h.2⟩⟩
theorem hide_get{u fc:Nat}{m:Mem}(i:Id):(hideM u fc m).get i=if hidB u fc i=true then none else m.get i:=by
 show row2 (row1 (x19y u fc m.hp) i.1) i.2.1 i.2.2=_
 rw[x1eo]
 by_cases hi:i.1=u
 .rw[x1p0 hi,x1bi]
  by_cases hf:fc<=i.2.1
  .rw[x1p0 hf,x1p0 (x1a2.2 ⟨hi,hf⟩)]
  .rw[x1oz hf,x1oz (λh=>hf (x1a2.1 h).2)];rfl
 .rw[x1oz hi,x1oz (λh=>hi (x1a2.1 h).1)];rfl
theorem back_get{u fc:Nat}{m m':Mem}(i:Id):(backM u fc m m').get i=if hidB u fc i=true then m.get i else m'.get i:=by
 show row2 (row1 (put1 _ m'.hp u) i.1) i.2.1 i.2.2=_
 rw[x1be]
 by_cases hi:i.1=u
 .rw[x1p0 hi,x1ci,x1bi]
  by_cases hf:fc<=i.2.1
  .rw[x1p0 hf,x1p0 (x1a2.2 ⟨hi,hf⟩),x1p0 hf]
   show _=row2 (row1 m.hp i.1) i.2.1 i.2.2
   rw[hi]
   split
   .rename_i e;exact e.symm
   .rename_i e;exact e.symm
  .rw[x1oz hf,x1oz (λh=>hf (x1a2.1 h).2),x1oz hf,<-hi];rfl
 .rw[x1oz hi,x1oz (λh=>hi (x1a2.1 h).1)];rfl
theorem fxInv9_ok(hc:x18d P pol call){hs:FHs}{A:Nat->Hs}(hm:Mono A)(hu:Under hs A){u fc mode:Nat}{fv:AV}{args:List AV}{m m':Mem}{r:AV}(h:fxInv9 call u fc hs mode fv args m=some (r,m')):∃n,x16d (x15o P pol n) u fc (A n) mode fv args m.st=some (r,m'.st):=by
 unfold fxInv9 at h
 cases h9:Nat.beq mode 9 with
 |true=>
  have e:=x1p8 h9
  subst e
  simp only[h9,cond_true]at h
  cases fv with
  |clo f caps=>
   simp only[sCall9,x1p3,x1p1]at h
   obtain⟨p,hp,rfl,rfl⟩:=h
   obtain⟨n,hn⟩:=hc _ _ _ _ _ _ _ Mono.nil Under.nil hp
   refine⟨n,?_⟩
   unfold x16d
   rw[x1p0 rfl]
   have e1:x187 u fc m.st=(hideM u fc m).st:=by
    unfold x187 Mem.st
    simp only
    congr 1
    funext i
    exact(hide_get i).symm
   have hn':x15o P pol n [] f (args++caps) (x187 u fc m.st)=some (p.1,p.2.st):=by rw[e1];exact hn
   simp only[hn']
   congr 2
   unfold x1b9 Mem.st
   simp only
   congr 1
   funext i
   exact(back_get i).symm
  |_=>cases h
 |false=>
  simp only[h9,cond_false]at h
  obtain⟨n,hn⟩:=x1en hc hm hu h
  refine⟨n,?_⟩
  unfold x16d
  rw[x1oz (λe=>by rw[e]at h9;simp at h9)]
  exact hn
def FCtx.c(c:FCtx)(hs:Hs):Ctx:={f:=c.f,u:=c.u,nt:=c.nt,hs:=hs}
theorem x1cj{ops:Array Oper}{o:Oper}{sl:Nat->AV}:x16v ops o sl=x1bb ops o.guard sl:=by
 unfold x16v x1bb
 cases o.guard with
 |none=>rfl
 |some g=>
  obtain⟨j,w⟩:=g
  simp only
  cases(ops[j]?).bind (·.dst)with
  |none=>rfl
  |some t=>simp only[sW];rfl
theorem x1ck{c:FCtx}{hs:Hs}{dst:Option Tmp}{v:AV}{s:Fs}{k:Fs->Option R}{r:R}(h:fput c.nt dst v s k=some r):∃s',put (c.c hs) dst v s.s=some s'.s/\k s'=some r/\s'.fc=s.fc/\s'.m=s.m:=by
 unfold fput at h
 split at h
 .rename_i d
  cases hd:Nat.blt d c.nt with
  |false=>rw[hd]at h;cases h
  |true=>
   rw[hd]at h
   exact⟨_,by simp only[put];rw[x1p0 (show d<(c.c hs).nt from x1qd hd)];rfl,h,rfl,rfl⟩
 .exact⟨s,rfl,h,rfl,rfl⟩
theorem fop_ok(hc:x18d P pol call){c:FCtx}{A:Nat->Hs}(hm:Mono A)(hu:Under c.hs A){ops:Array Oper}{i:Nat}{o:Oper}(ho:ops[i]?=some o){s:Fs}{k:AV->Mem->Option R}{r:R}(h:fxOp P pol call {c with fc:=s.fc} (c.u,s.fc+i,o.dst.getD 0) o s.sl s.m k=some r)(hw:x16v ops o s.sl=true) :
 ∃v m',k v m'=some r/\∃n,∀s1,put (c.c (A n)) o.dst v {s with m:=m' }.s=some s1->x163 P pol (x15o P pol n) (c.c (A n)) ops i s.s=some s1:=by
 by_cases hn:x15j o=true
 .obtain⟨dst,op,type,pos,after,guard⟩:=o
  cases op with
  |call cl=>
   obtain⟨callee,args,argTypes⟩:=cl
   cases callee with
   |value fv=>
    simp only[fxOp]at h
    rw[x1q7]at h
    obtain⟨⟨v,m'⟩,h1,h2⟩:=h
    obtain⟨n,hn⟩:=fxInv9_ok hc hm hu h1
    refine⟨v,m',h2,n,λs1 hp=>?_⟩
    unfold x163
    rw[ho]
    simp only
    have hw':x16v ops {dst:=dst,op:=Op.call {callee:=Callee.value fv,args:=args,argTypes:=argTypes},type:=type,pos:=pos,after:=after,guard:=guard} s.s.sl=true:=hw
    rw[x1p0 hw']
    have hn':x16d (x15o P pol n) (c.c (A n)).u s.s.fc (c.c (A n)).hs (nm (pol (c.c (A n)).f (dst.getD 0))) (ev s.s.sl fv) (args.toList.map (ev s.s.sl)) s.s.st=some (v,m'.st):=hn
    rw[hn']
    exact hp
   |_=>simp[x15j]at hn
  |_=>simp[x15j]at hn
 .have hn':x15j o=false:=by simpa using hn
  by_cases hi:∃rv name args at',o.op=.call ⟨.invoke rv name,args,at'⟩
  .obtain⟨rv,name,args,at',hop⟩:=hi
   obtain⟨dst,op,type,pos,after,guard⟩:=o
   simp only at hop
   subst hop
   simp only[fxOp,fxMeth]at h
   rw[x1q7]at h
   obtain⟨⟨v,m'⟩,h1,h2⟩:=h
   rw[x1q7]at h1
   obtain⟨p,hp,h1⟩:=h1
   obtain⟨n,hn⟩:=x1en hc hm hu h1
   refine⟨v,m',h2,n,λs1 hp1=>?_⟩
   unfold x163
   rw[ho]
   simp only
   have hw':x16v ops {dst:=dst,op:=Op.call {callee:=Callee.invoke rv name,args:=args,argTypes:=at' },type:=type,pos:=pos,after:=after,guard:=guard} s.s.sl=true:=hw
   rw[x1p0 hw']
   have hn':x15r (x15o P pol n) (c.c (A n)).hs (nm (pol (c.c (A n)).f (dst.getD 0))) (.clo p.1 []) (p.2::args.toList.map (ev s.s.sl)) s.s.st=some (v,m'.st):=hn
   have hp':x19w P (ev s.s.sl rv) name=some p:=hp
   simp only[hp',hn']
   exact hp1
  obtain⟨v,m',h1,h2,h3⟩:=fxOp_ok hn' (λrv name args at' e=>hi ⟨rv,name,args,at',e⟩) h
  refine⟨v,m',h3,0,λs1 hp=>?_⟩
  unfold x163
  rw[ho]
  simp only
  have hw':x16v ops o s.s.sl=true:=hw
  rw[x1p0 hw']
  have h1':ixOp P ((c.c (A 0)).u,s.s.fc+i,o.dst.getD 0) o s.s.sl s.s.st.objs=some (v,m'.get):=h1
  have hp':put (c.c (A 0)) o.dst v {s.s with st:={s.s.st with objs:=m'.get}}=some s1:=by
   have:({s with m:=m' }:Fs).s={s.s with st:={s.s.st with objs:=m'.get}}:=by
    simp only[Fs.s,Mem.st,h2]
   rw[<-this];exact hp
  split
  .rename_i fv args at' e
   have:x15j o=true:=by simp only[x15j,e]
   rw[this]at hn';cases hn'
  .rename_i rv name args at' e
   exact absurd ⟨rv,name,args,at',e⟩ hi
  .rw[h1']
   exact hp'
theorem fstep_ok(hc:x18d P pol call){c:FCtx}{A:Nat->Hs}(hm:Mono A)(hu:Under c.hs A){ops:Array Oper}{i:Nat}{s:Fs}{k:Fs->Option R}{r:R}(h:fxStep P pol call c ops i s k=some r):∃s',k s'=some r/\s'.fc=s.fc/\∃n,x163 P pol (x15o P pol n) (c.c (A n)) ops i s.s=some s'.s:=by
 unfold fxStep at h
 split at h
 .rename_i e
  exact⟨s,h,rfl,0,by unfold x163;rw[e]⟩
 .rename_i o e
  split at h
  .rename_i hg
   obtain⟨v,m',h1,n,h2⟩:=fop_ok hc hm hu e h (by rw[x1cj,hg];rfl)
   obtain⟨s',h3,h4,h5,h6⟩:=x1ck (hs:=A n) h1
   exact⟨s',h4,h5,n,h2 _ h3⟩
  .rename_i g hg
   rw[x1q7]at h
   obtain⟨⟨v,m'⟩,h1,h2⟩:=h
   cases hw:x1bb ops (some g) s.sl with
   |true=>
    rw[hw,cond_true]at h1
    obtain⟨v1,m1,h3,n,h4⟩:=fop_ok hc hm hu e h1 (by rw[x1cj,hg];exact hw)
    cases h3
    obtain⟨s',h5,h6,h7,h8⟩:=x1ck (hs:=A n) h2
    exact⟨s',h6,h7,n,h4 _ h5⟩
   |false=>
    rw[hw,cond_false]at h1
    cases h1
    obtain⟨s',h5,h6,h7,h8⟩:=x1ck (hs:=A 0) h2
    refine⟨s',h6,h7,0,?_⟩
    unfold x163
    rw[e]
    simp only
    rw[x1oz (by rw[show s.s.sl=s.sl from rfl,x1cj,hg,hw];simp)]
    exact h5
theorem frun_ok(hc:x18d P pol call){c:FCtx}{A:Nat->Hs}(hm:Mono A)(hu:Under c.hs A){ops:Array Oper}:∀{L:List Nat} {s:Fs} {k:Fs->Option R} {r:R},
 fxRun P pol call c ops L s k=some r->∃s',k s'=some r/\s'.fc=s.fc/\∃n,x162 P pol (x15o P pol n) (c.c (A n)) ops L s.s=some s'.s
 |[],s,k,r,h=>⟨s,h,rfl,0,rfl⟩
 |i::L,s,k,r,h=>by
  obtain⟨s1,h1,h2,n1,h3⟩:=fstep_ok hc hm hu h
  obtain⟨s2,h4,h5,n2,h6⟩:=frun_ok hc hm hu h1
  refine⟨s2,h4,h5.trans h2,max n1 n2,?_⟩
  have q1:=step_le (callLe (P:=P) (pol:=pol) (Nat.le_max_left n1 n2)) (hm n1 (max n1 n2) (Nat.le_max_left ..)) h3
  have q2:=run_le (callLe (P:=P) (pol:=pol) (Nat.le_max_right n1 n2)) (hm n2 (max n1 n2) (Nat.le_max_right ..)) h6
  simp only[x162]
  have q1':x163 P pol (x15o P pol (max n1 n2)) (c.c (A (max n1 n2))) ops i s.s=some s1.s:=q1
  rw[q1']
  exact q2
theorem x1cl{id0:Id}{o:Oper}{sl:Nat->AV}:tch id0 o sl=x158 id0 o sl:=by
 obtain⟨dst,op,type,pos,after,guard⟩:=o
 unfold tch
 cases op with
 |load t a=>rfl
 |store t a x=>rfl
 |slice t x lo hi mx=>rfl
 |lookup t x ix ok=>rfl
 |call cl=>
  obtain⟨callee,args,argTypes⟩:=cl
  simp only
  split
  .rename_i s x e2
   simp only[x158,e2];rfl
  .rename_i s x e2
   simp only[x158,e2];rfl
  .rfl
 |_=>rfl
theorem x1cm{mode:Nat}{o:Oper}{sl:Nat->AV}:mkO mode o sl=meek mode o sl:=by
 obtain⟨dst,op,type,pos,after,guard⟩:=o
 cases op with
 |call cl=>
  obtain⟨callee,args,argTypes⟩:=cl
  cases callee with
  |value fv=>rfl
  |_=>rfl
 |_=>rfl
theorem meek_le{mode:Nat}{o:Oper}{sl:Nat->AV}:meek mode o sl<=2:=by
 rw[<-x1cm]
 unfold mkO mkD mkM
 split
 .split
  .split
   .split
    .omega
    .split<;>omega
   .omega
  .omega
 .omega
theorem cAp_ok{mode:Nat}{lim:Option Nat}{id0:Id}{x y:Oper}{sl:Nat->AV}(hy:x15j y=false)(h:cAp lim (tch id0 y sl) (mkO mode x sl)=true):x17i mode lim id0 x y sl=true:=by
 unfold x17i
 rw[x1cl,x1cm]at h
 rw[hy]
 simp only[x1pa,x1q0]
 unfold cAp at h
 split at h
 .rename_i r ws e
  rw[e]
  simp only
  rw[x1p4]at h ⊢
  refine⟨?_,?_⟩
  .have h1:=h.1
   cases lim with
   |none=>rfl
   |some n=>
    simp only at h1 ⊢
    rw[x1p5]at h1 ⊢
    intro i hi
    exact x1pm (x1qd (h1 i hi))
  .have h2:=h.2
   rw[x1pw,x1p4]at h2 ⊢
   rcases h2 with h2|⟨h2,h3⟩
   .exact Or.inl (by rw[x1p8 h2];rfl)
   .exact Or.inr ⟨by rw[x1p8 h2];rfl,h3⟩
 .cases h
theorem x1hm{c:FCtx}{hs:Hs}{fc next0:Nat}{ops:Array Oper}{i j:Nat}{sl:Nat->AV}(h:x1bc pol c.f c.u fc next0 ops i j sl=true):pairOK pol (c.c hs) fc next0 ops i j sl=true:=by
 unfold x1bc at h
 unfold pairOK
 split at h
 .rename_i x y e1 e2
  rw[e1,e2]
  simp only
  rw[x1p4]at h ⊢
  refine⟨h.1,?_⟩
  rw[x1pw]
  right
  have h2:=h.2
  split at h2
  .rename_i hx
   rw[x1p0 hx]
   rw[x1p4]at h2
   exact cAp_ok (by simpa using h2.1) h2.2
  .rename_i hx
   rw[x1oz hx]
   split at h2
   .rename_i hy
    rw[x1p0 hy]
    exact cAp_ok (by simpa using hx) h2
   .rename_i hy
    rw[x1oz hy]
    rw[x1cl,x1cl]at h2
    exact h2
 .cases h
theorem softP_ok{c:FCtx}{hs:Hs}{fc next0:Nat}{ops:Array Oper}{i j:Nat}{sl:Nat->AV}(h:x19z pol c.f ops i j=true):pairOK pol (c.c hs) fc next0 ops i j sl=true:=by
 unfold x19z at h
 unfold pairOK
 split at h
 .rename_i x y e1 e2
  rw[e1,e2]
  simp only
  rw[x1p4]at h ⊢
  refine⟨h.1,?_⟩
  rw[x1pw]
  exact Or.inl h.2
 .cases h
theorem x1hn{op:Op}(h:x168 op=true):x17h op=true:=by
 cases op with
 |call c=>
  obtain⟨callee,args,argTypes⟩:=c
  cases callee with
  |builtin b=>cases b<;>simp[x168]at h<;>rfl
  |_=>simp[x168]at h
 |_=>first|(simp[x168]at h;done)|rfl
theorem x1ep{f:Nat}{ops:Array Oper}{i:Nat}{x:Oper}{y:Op}(hx:ops[i]?=some x)(h:softA pol f ops i=true)(hy:x168 y=true):x17r (pol f (x.dst.getD 0)) x y=true:=by
 unfold softA at h
 rw[hx]at h
 simp only at h
 unfold x17r
 rw[x1p4]at h ⊢
 refine⟨h.1,?_⟩
 have hq:x18p y=true:=hy
 have hr:=x1hn hy
 rw[hr,hq]
 have h2:=h.2
 simp only[x1pw,x1p4,x1q0,Bool.or_true]at h2 ⊢
 rcases h2 with h2|h2
 .exact .inl (.inr h2)
 .exact .inr h2
theorem x1ao{id0:Id}{o:Oper}{sl:Nat->AV}(h:x168 o.op=true):x158 id0 o sl=(some [],some []):=by
 obtain⟨dst,op,type,pos,after,guard⟩:=o
 cases op with
 |call cl=>
  obtain⟨callee,args,argTypes⟩:=cl
  cases callee with
  |builtin b=>cases b<;>first|rfl|(simp[x168]at h)
  |_=>simp[x168]at h
 |_=>first|rfl|(simp[x168]at h)
theorem x1eq{id0:Id}{o:Oper}{sl:Nat->AV}(h:wNone o.op=true):∃r,x158 id0 o sl=(some r,some []):=by
 unfold wNone at h
 rw[x1pw]at h
 rcases h with h|h
 .exact⟨[],x1ao h⟩
 .obtain⟨dst,op,type,pos,after,guard⟩:=o
  cases op with
  |load t a=>simp only[x158];split<;>exact⟨_,rfl⟩
  |slice t x lo hi mx=>simp only[x158];split<;>exact⟨_,rfl⟩
  |lookup t x ix ok=>simp only[x158];split<;>exact⟨_,rfl⟩
  |_=>simp at h
theorem stFine_ok{c:FCtx}{hs:Hs}{fc next0:Nat}{ops:Array Oper}{i j:Nat}{sl:Nat->AV}(h:x1al ops i j=true)(hmk:∀x y,ops[i]?=some x->ops[j]?=some y->(x15j x=true->x168 y.op=true->1<=meek (nm (pol c.f (x.dst.getD 0))) x sl)/\(x15j y=true->x168 x.op=true->1<=meek (nm (pol c.f (y.dst.getD 0))) y sl)) :
 pairOK pol (c.c hs) fc next0 ops i j sl=true:=by
 unfold x1al at h
 unfold pairOK
 split at h
 .rename_i x y e1 e2
  obtain⟨hm1,hm2⟩:=hmk x y e1 e2
  rw[e1,e2]
  simp only
  rw[x1p4]at h ⊢
  refine⟨h.1,?_⟩
  rw[x1pw]
  right
  have meek12:∀{mode:Nat} {x:Oper},1<=meek mode x sl->(meek mode x sl == 2||(meek mode x sl == 1&&([]:List Id).isEmpty))=true:=by
   intro mode x h1
   have:=meek_le (mode:=mode) (o:=x) (sl:=sl)
   have:meek mode x sl=1\/meek mode x sl=2:=by omega
   rcases this with e|e<;>rw[e]<;>rfl
  have h2:=h.2
  rw[x1pw]at h2
  rcases h2 with h2|h2
  .rw[x1p4,x1p4]at h2
   obtain⟨⟨hx,hy⟩,h3⟩:=h2
   rw[x1oz (by simpa using hx),x1oz (by simpa using hy)]
   rw[x1pw,x1pw,x1p4]at h3
   rcases h3 with (h3|h3)|⟨h3,h4⟩
   .rw[x1ao h3];rfl
   .rw[x1ao h3];unfold x153;split<;>simp_all
   .obtain⟨r1,q1⟩:=x1eq (id0:=((c.c hs).u,fc+i,x.dst.getD 0)) (sl:=sl) h3
    obtain⟨r2,q2⟩:=x1eq (id0:=((c.c hs).u,fc+j,y.dst.getD 0)) (sl:=sl) h4
    rw[q1,q2]
    unfold x153
    split
    .rfl
    .rfl
    .rename_i e3 e4
     cases e3;cases e4
     simp[disj]
    .rename_i n1 n2 n3
     exact(n3 _ _ _ _ rfl rfl).elim
  .unfold ncPair at h2
   rw[x1pw,x1p4,x1p4,x1p4,x1p4]at h2
   rcases h2 with ⟨⟨h3,h4⟩,h5⟩|⟨⟨h3,h4⟩,h5⟩
   .rw[x1p0 h3]
    unfold x17i
    rw[h4,x1ao h5]
    simp only[x1q0,x1qy,x1s4]
    exact meek12 (hm1 h3 h5)
   .have hx:x15j x=false:=by simpa using h4
    rw[x1oz (by rw[hx];simp),x1p0 h3]
    unfold x17i
    rw[hx,x1ao h5]
    simp only[x1pa,x1q0]
    exact meek12 (hm2 h3 h5)
 .cases h
theorem x1cn{f:Nat}{ops:Array Oper}{sl:Nat->AV}:∀{l:List Nat},x19e pol f ops sl l=true->∀j∈l,∃o,ops[j]?=some o/\1<=meek (nm (pol f (o.dst.getD 0))) o sl
 |[],_,j,hj=>by cases hj
 |a::l,h,j,hj=>by
  simp only[x19e,x1p4]at h
  rcases x1pd.mp hj with rfl|hj
  .have h1:=h.1
   split at h1
   .rename_i o e
    rw[x1cm]at h1
    exact⟨o,e,x1qd h1⟩
   .cases h1
  .exact x1cn h.2 j hj
theorem x1er{f u fc next0:Nat}{ops:Array Oper}{sl:Nat->AV}:∀{l:List (Nat×Nat)},x18b pol f u fc next0 ops sl l=true->∀p∈l,x1bc pol f u fc next0 ops p.1 p.2 sl=true
 |[],_,p,hp=>by cases hp
 |(i,j)::l,h,p,hp=>by
  simp only[x18b,x1p4]at h
  rcases x1pd.mp hp with rfl|hp
  .exact h.1
  .exact x1er h.2 p hp
theorem fdraw_ok{c:FCtx}{hs:Hs}{fc next0:Nat}{ops:Array Oper}{sl:Nat->AV}(h1:x1bd P ops=true)(h2:x19e pol c.f ops sl (meekL pol c.f ops)=true)(h3:x18b pol c.f c.u fc next0 ops sl (dynP pol c.f ops)=true) :
 x19c P pol (c.c hs) fc next0 ops sl=true:=by
 unfold x19c
 unfold x1bd at h1
 simp only at h1 ⊢
 rw[x1p5]at h1 ⊢
 intro j hj
 have h1j:=h1 j hj
 rw[x1p4,x1p4]at h1j ⊢
 refine⟨h1j.1,?_⟩
 have h4:=h1j.2
 rw[x1p5]at h4 ⊢
 intro i hi
 rw[x1p4]
 refine⟨h4 i hi,?_⟩
 rw[x1pw]
 by_cases hb:((befs ops).getD j []).contains i=true
 .exact Or.inl hb
 .right
  by_cases hsf:x19z pol c.f ops i j=true
  .exact softP_ok hsf
  by_cases hf:x1al ops i j=true
  .refine stFine_ok hf λx y e1 e2=>?_
   have hap:x.apart ops y=true:=by
    unfold x1al at hf
    rw[e1,e2]at hf
    simp only[x1p4]at hf
    exact hf.1
   have nsx:x168 y.op=true->softA pol c.f ops i=false:=λhy=>by
    rw[x1pv]
    intro ha
    apply hsf
    unfold x19z
    rw[e1,e2]
    simp only[hap,x1ep e1 ha hy,Bool.true_or,x1s5]
   have nsy:x168 x.op=true->softA pol c.f ops j=false:=λhx=>by
    rw[x1pv]
    intro ha
    apply hsf
    unfold x19z
    rw[e1,e2]
    simp only[hap,x1ep e2 ha hx,Bool.or_true,x1s5]
   have hij:i<j:=x1px.mp hi
   have hjn:j<ops.size:=x1px.mp hj
   have hbi:((befs ops).getD i []).contains j=false:=by
    have:=h1 i (x1px.mpr (by omega))
    rw[x1p4,x1p4]at this
    have h5:=this.1.2
    rw[x1p5]at h5
    rw[x1pv]
    intro hc
    have:=h5 j (List.contains_iff_mem.mp hc)
    have:=x1r4 this
    omega
   have hn:∀o,x15j o=true->x168 o.op=true->False:=by
    intro o a b
    obtain⟨dst,op,type,pos,after,guard⟩:=o
    cases op with
    |call cl=>
     obtain⟨callee,args,argTypes⟩:=cl
     cases callee<;>simp[x15j,x168]at a b
    |_=>simp[x15j]at a
   refine⟨λhx hy=>?_,λhy hx=>?_⟩
   .obtain⟨o,e3,e4⟩:=x1cn h2 i (by
     unfold meekL
     rw[x1pz]
     refine⟨?_,by rw[nsx hy];rfl⟩
     unfold x1ch
     simp only[x1pz,x1px]
     refine⟨by omega,?_⟩
     rw[x1p4,e1]
     refine⟨hx,?_⟩
     rw[List.any_eq_true]
     refine⟨j,hj,?_⟩
     rw[e2]
     have hyc:x15j y=false:=by
      rw[x1pv];exact λe=>hn y e hy
     simp only[hyc,hy,hbi,x1pa,x1q0]
     simpa using hb)
    rw[e1]at e3;cases e3;exact e4
   .obtain⟨o,e3,e4⟩:=x1cn h2 j (by
     unfold meekL
     rw[x1pz]
     refine⟨?_,by rw[nsy hx];rfl⟩
     unfold x1ch
     simp only[x1pz,x1px]
     refine⟨by omega,?_⟩
     rw[x1p4,e2]
     refine⟨hy,?_⟩
     rw[List.any_eq_true]
     refine⟨i,x1px.mpr (by omega),?_⟩
     rw[e1]
     have hxc:x15j x=false:=by
      rw[x1pv];exact λe=>hn x e hx
     simp only[hxc,hx,hbi,x1pa,x1q0,x1s6]
     simpa using hb)
    rw[e2]at e3;cases e3;exact e4
  .refine x1hm (x1er h3 (i,j) ?_)
   unfold dynP
   rw[x1pz]
   refine⟨?_,by simpa using hsf⟩
   unfold x1eg
   simp only[x1qe,x1q8,x1pz]
   refine⟨j,hj,i,⟨hi,?_⟩,rfl⟩
   simp only[x1sl]at hf hb
   simp only[hf,hb,Bool.or_self,x1pa]
theorem freg_ok(hc:x18d P pol call){c:FCtx}{A:Nat->Hs}(hm:Mono A)(hu:Under c.hs A){ops:Array Oper}{draw:Bool}{s:Fs}{k:Fs->Option R}{r:R}(h:fxReg P pol call c ops draw s k=some r):∃s',k s'=some r/\∃n,x178 P pol (x15o P pol n) (c.c (A n)) ops draw s.s=some s'.s:=by
 unfold fxReg at h
 obtain⟨s1,h1,h2,n,h3⟩:=frun_ok hc hm hu h
 cases draw with
 |false=>
  refine⟨{s1 with fc:=s.fc+ops.size},h1,n,?_⟩
  unfold x178
  rw[h3]
  rfl
 |true=>
  rw[cond_true]at h1
  cases hml:x18r P ops s1.sl with
  |true=>rw[hml]at h1;cases h1
  |false=>
  cases hd:x1bd P ops with
  |false=>rw[hml,hd]at h1;cases h1
  |true=>
   rw[hml,hd,x1pa,x1q0,cond_true]at h1
   have key:x19e pol c.f ops s1.sl (meekL pol c.f ops)=true->x18b pol c.f c.u s.fc s.m.next ops s1.sl (dynP pol c.f ops)=true->k {s1 with fc:=s.fc+ops.size}=some r->∃s',k s'=some r/\∃n,x178 P pol (x15o P pol n) (c.c (A n)) ops true s.s=some s'.s:=by
    intro a b e
    refine⟨_,e,n,?_⟩
    unfold x178
    rw[h3]
    simp only
    have hdr:x19c P pol (c.c (A n)) s.s.fc s.s.st.next ops s1.s.sl=true:=fdraw_ok hd a b
    rw[hdr,show x18r P ops s1.s.sl=false from hml]
    rfl
   split at h1
   .rename_i e1
    split at h1
    .rename_i e2
     exact key (by rw[e1];rfl) (by rw[e2];rfl) h1
    .rename_i p q e2
     cases hy:x18b pol c.f c.u s.fc s.m.next ops s1.sl (p::q)with
     |false=>rw[hy]at h1;cases h1
     |true=>rw[hy]at h1;exact key (by rw[e1];rfl) (by rw[e2];exact hy) h1
   .rename_i a b e1
    cases hy:(x19e pol c.f ops s1.sl (a::b)&&x18b pol c.f c.u s.fc s.m.next ops s1.sl (dynP pol c.f ops))with
    |false=>rw[hy]at h1;cases h1
    |true=>
     rw[hy]at h1
     rw[x1p4]at hy
     exact key (by rw[e1];exact hy.1) hy.2 h1
end Go.Ix
