import Derived.Test.YtdfahbenacjgeaaFxOps
set_option linter.unusedSimpArgs false
set_option linter.unusedVariables false
namespace Go.Ix
variable{P:Program}{pol:Pol}{call:qI}{R:Type}
theorem shut1_get(h:Hp)(i j:Id):rT (D0 h i) j=shut [i] (rT h) j:=by
 unfold D0 shut;by_cases hj:j=i
 .subst hj;rw[xc2 (xf9.mpr rfl)];cases e:rT h j with
  |none=>simp[e]
  |some o=>
   cases o with
   |map es=>simp[e]
   |lp d=>simp[e]
   |bld t e l=>simp[e]
   |row cs v f=>
    cases f with
    |true=>simp[e]
    |false=>simp[J3]
 .rw[xc1 (by simpa using hj)];split
  .rw[J3,xc1 hj]
  .rfl
theorem J5:∀(ids:List Id) (h:Hp),rT (uN ids h)=shut ids (rT h)
 |[],h=>by funext i;simp[uN,shut]
 |i::r,h=>by
  funext j;rw[uN,J5 r];have h1:=shut1_get h i j;unfold shut at h1 ⊢;rw[h1];by_cases hj:j=i
  .subst hj;simp only[xf9,xcm,xce,true_or];cases e:rT h j with
   |none=>simp
   |some o=>
    cases o with
    |map es=>simp
    |lp d=>simp
    |bld t e l=>simp
    |row cs v f=>simp
  .simp[hj]
theorem x66(h':Hp):∀(ids:List Id) (h:Hp),(∀i∈ids,∃o,rT h' i=some o)->∀j,rT (D1 h' ids h) j=if j∈ids then rT h' j else rT h j
 |[],h,_,j=>by simp[D1]
 |i::r,h,hi,j=>by
  obtain⟨o,ho⟩:=hi i (xcf ..);simp only[D1,ho];rw[x66 h' r _ λx hx=>hi x (xc9 _ hx)];simp only[xce,J3];by_cases hj:j∈r
  .simp[hj]
  .by_cases hji:j=i
   .subst hji;simp[hj,ho]
   .simp[hj,hji]
theorem row1_nil{h:Hp}{u:Nat}(hn:∀e∈h,e.1≠u):sJ h u=[]:=by
 induction h with
 |nil=>rfl
 |cons e r ih=>obtain⟨v,l⟩:=e;simp only[sJ];have:Nat.beq v u=false:=(by rw[xcz];intro x;exact hn _ (xcf ..) (xcb x));rw[this];exact ih λe he=>hn e (xc9 _ he)
theorem J6{p:Nat×List (Nat×Nat×Ob)->Bool}{u:Nat}{t:Hp}(ht:∀e∈t,e.1≠u):∀{h:Hp},(∀l,p (u,l)=true)->sJ (h.filter p++t) u=sJ h u
 |[],_=>row1_nil ht
 |(v,l)::r,hp=>by
  simp only[xek];by_cases hv:v=u
  .subst hv;rw[xc2 (hp l)];simp[sJ]
  .have hb:Nat.beq v u=false:=(by rw[xcz];intro x;exact hv (xcb x));split
   .simp only[xdw,sJ,hb,cond_false];exact J6 ht hp
   .simp only[sJ,hb,cond_false];exact J6 ht hp
theorem x67{u:Nat}{t:Hp}:∀{h:Hp},(∀e∈h,e.1≠u)->sJ (h++t) u=sJ t u
 |[],_=>rfl
 |(v,l)::r,hn=>by have hb:Nat.beq v u=false:=(by rw[xcz];intro x;exact hn _ (xcf ..) (xcb x));simp only[xdw,sJ,hb,cond_false];exact x67 λe he=>hn e (xc9 _ he)
theorem x68(h' h:Hp)(n:Nat):rT ((h'.filter λe=>Nat.ble n e.1)++(h.filter λe=>Nat.blt e.1 n))=λi=>if n<=i.1 then rT h' i else rT h i:=by
 funext i;unfold rT;by_cases hi:n<=i.1
 .rw[xc2 hi,J6]
  .intro e he;rw[xcn]at he;have:=xdh he.2;omega
  .intro l;exact xfb hi
 .rw[xc1 hi,x67]
  .have:sJ (List.filter (λe=>e.fst.blt n) h++[]) i.1=sJ h i.1:=J6 (λe he=>by cases he) (λl=>xfb (by omega));rw[xe6]at this;rw[this]
  .intro e he;rw[xcn]at he;have:=xdh he.2;omega
def Mono(A:Nat->Hs):Prop:=∀n m,n<=m->HLe (A n) (A m)
def Under(hs:FHs)(A:Nat->Hs):Prop:=∀id h,xS hs id=some h->∀args m m',h args m=some m'->∃n g,vN (A n) id=some g/\g args m.st=some m'.st
def Nil:Nat->Hs:=λ_=>[]
theorem Mono.nil:Mono Nil:=λ_ _ _=>trivial
theorem Under.nil:Under [] Nil:=λ_ _ h=>by simp[xS]at h
theorem Under.shift{hs:FHs}{A:Nat->Hs}(hm:Mono A)(h:Under hs A):Under hs λn=>A (n+1):=by intro id g hg args m m' e;obtain⟨n,g',h1,h2⟩:=h id g hg args m m' e;obtain⟨g2,h3,h4⟩:=M9 (hm n (n+1) (by omega)) h1;exact⟨n,g2,h3,h4 _ _ _ h2⟩
def yU(P:Program)(pol:Pol)(call:qI):Prop:=∀hs A f args m r m',Mono A->Under hs A->call hs f args m=some (r,m')->∃n,rV P pol n (A n) f args m.st=some (r,m'.st)
theorem R5{n m:Nat}(h:n<=m):zP (rV P pol n) (rV P pol m):=body_le (wC h)
theorem x69(hc:yU P pol call){hs:FHs}{A:Nat->Hs}(hm:Mono A)(hu:Under hs A){mode:Nat}{fv:AV}{args:List AV}{m m':Mem}{r:AV}(h:uD call hs mode fv args m=some (r,m')):∃n,rZ (rV P pol n) (A n) mode fv args m.st=some (r,m'.st):=by
 cases fv with
 |clo f caps=>
  simp only[uD]at h;split at h
  .unfold qK at h;split at h
   .rename_i l' e1;split at h
    .rename_i r0 m0 e2;rw[xc5]at h;obtain⟨r1,h1,h2⟩:=h;cases h2;obtain⟨n,hn⟩:=hc _ _ _ _ _ _ _ Mono.nil Under.nil e2;refine⟨n,?_⟩;have e1':(args++caps).mapM (frz m.st.objs qN)=some l':=e1;have hn':rV P pol n [] f l' vT=some (r0,m0.st):=hn;have h1':frz m0.st.objs qN r0=some r:=h1;simp only[rZ,e1',hn',h1',Option.map_some]
     rw[show(Mem.mk (uN ((args++caps).flatMap (reach m.get qN)) m.hp) m.next).st={m.st with objs:=shut ((args++caps).flatMap (reach m.st.objs qN)) m.st.objs}from by
      simp only[Mem.st,Mem.get]
      congr 1
      exact J5 _ _]
    .cases h
   .cases h
  .unfold I7 at h;split at h
   .rename_i l' e1;split at h
    .rename_i r0 m0 e2;split at h
     .rename_i e3;cases h;obtain⟨n,hn⟩:=hc _ _ _ _ _ _ _ Mono.nil Under.nil e2;refine⟨n,?_⟩;have e1':(args++caps).mapM (frz m.st.objs qN)=some l':=e1;have hn':rV P pol n [] f l' vT=some (r,m0.st):=hn;simp only[rZ,e1',hn',xc2 e3]
     .cases h
    .cases h
   .cases h
  .unfold sCall4 at h;split at h
   .rename_i l' e1;split at h
    .rename_i r0 m0 e2;split at h
     .rename_i e3;cases h;obtain⟨n,hn⟩:=hc _ _ _ _ _ _ _ Mono.nil Under.nil e2;refine⟨n,?_⟩;have e1':(args++caps).mapM (frz m.st.objs qN)=some l':=e1;have hn':rV P pol n [] f l' {objs:=λ_=>none,next:=m.next}=some (r,m0.st):=hn;simp only[rZ];rw[e1'];simp only
      rw[show({objs:=λ_=>none,next:=m.st.next}:St)={objs:=λ_=>none,next:=m.next}from rfl,hn'];simp only
      split;case isFalse hno=>exact absurd e3 hno
      have hk:∀i∈reach m0.get qN r,∃o,rT m0.hp i=some o:=by
       intro j hj;rw[xc6]at e3;have:=xc8.mp e3.2 j hj;rw[xc6]at this;revert this;show _/\(match rT m0.hp j with|some (.row cs _ false)=>cs.all y5|_=>false)=true->_;rintro⟨-,h4⟩;cases e:rT m0.hp j with
       |none=>rw[e]at h4;cases h4
       |some o=>exact⟨o,rfl⟩
      congr 2;simp only[Mem.st,Mem.get];congr 1;funext i;exact(x66 _ _ _ hk i).symm
     .cases h
    .cases h
   .cases h
  .unfold c0 at h;split at h
   .rename_i e1;split at h
    .rename_i r0 m0 e2;cases h;obtain⟨n,hn⟩:=hc _ _ _ _ _ _ _ Mono.nil Under.nil e2;refine⟨n,?_⟩;have hn':rV P pol n [] f (args++caps) {objs:=λ_=>none,next:=m.next}=some (r,m0.st):=hn;simp only[rZ,xc2 e1];rw[show({objs:=λ_=>none,next:=m.st.next}:St)={objs:=λ_=>none,next:=m.next}from rfl,hn'];simp only[Mem.st];congr 2;exact congrArg (St.mk · _) (x68 m0.hp m.hp m.next).symm
    .cases h
   .cases h
  .rename_i h0 h3 h4 h1;obtain⟨n,hn⟩:=hc _ _ _ _ _ _ _ hm hu h;refine⟨n,?_⟩;have key:∀mode:Nat,(mode=0->False)->(mode=3->False)->(mode=4->False)->(mode=1->False)->rZ (rV P pol n) (A n) mode (.clo f caps) args m.st=rV P pol n (A n) f (args++caps) m.st:=(by intro mode a b c d;unfold rZ;split<;>first|rfl|(exact(a rfl).elim)|(exact(b rfl).elim)|(exact(c rfl).elim)|(exact(d rfl).elim)|skip;split<;>first|rfl|(exact(a rfl).elim)|(exact(b rfl).elim)|(exact(c rfl).elim)|(exact(d rfl).elim)|simp_all;all_goals simp_all);rw[key mode h0 h3 h4 h1];exact hn
 |yld id=>
  simp only[uD]at h;split at h
  .rename_i g e;rw[xc5]at h;obtain⟨m1,h1,h2⟩:=h;cases h2;obtain⟨n,g',h3,h4⟩:=hu _ _ e _ _ _ h1;exact⟨n,by simp only[rZ,h3,h4,Option.map_some];rfl⟩
  .cases h
 |_=>simp[uD]at h
theorem nbeq{a b:Nat}(h:a≠b):Nat.beq a b=false:=by
 cases e:Nat.beq a b with
 |true=>exact absurd (xcb e) h
 |false=>rfl
theorem x6a{u fc:Nat}:∀(h:Hp) (w:Nat),sJ (z2 u fc h) w=if w=u then(sJ h w).filter (λe=>Nat.blt e.1 fc)else sJ h w
 |[],w=>by simp[z2,sJ]
 |(v,l)::r,w=>by
  simp only[z2];cases hv:Nat.beq v u with
  |true=>
   have e:=xcb hv;subst e;simp only[cond_true,sJ];by_cases hw:w=v
   .subst hw;simp
   .have:Nat.beq v w=false:=nbeq (Ne.symm hw);simp[this,hw]
  |false=>
   have e:v≠u:=(by intro e;subst e;simp at hv);simp only[cond_false,sJ,x6a r w];cases hw:Nat.beq v w with
   |true=>have e2:=xcb hw;subst e2;simp[e]
   |false=>simp
theorem J7{fc s t:Nat}:∀(l:List (Nat×Nat×Ob)),tI (l.filter λe=>Nat.blt e.1 fc) s t=if fc<=s then none else tI l s t
 |[]=>by simp[tI]
 |(a,b,o)::r=>by
  rw[xek];cases ha:Nat.blt a fc with
  |true=>
   have h1:a<fc:=xdh ha;simp only[xcm,tI,J7 r];cases hc:Nat.beq a s&&Nat.beq b t with
   |true=>rw[xc6]at hc;have:=xcb hc.1;simp[show ¬fc<=s by omega]
   |false=>simp
  |false=>
   have h1:¬a<fc:=λh=>by have:Nat.blt a fc=true:=xfb h;rw[this]at ha;cases ha
   simp only[xcv,xck,J7 r,tI];by_cases hs:fc<=s
   .simp[hs]
   .rw[xc1 hs,xc1 hs];have:Nat.beq a s=false:=nbeq (by omega);simp[this]
theorem R6{fc s t:Nat}{B:List (Nat×Nat×Ob)}:∀(l:List (Nat×Nat×Ob)),tI ((l.filter λe=>Nat.ble fc e.1)++B) s t=if fc<=s then(match tI l s t with|some o=>some o|none=>tI B s t)else tI B s t
 |[]=>by simp[tI]
 |(a,b,o)::r=>by
  rw[xek];cases ha:Nat.ble fc a with
  |true=>
   have h1:fc<=a:=xdh ha;simp only[xcm,xdw,tI,R6 r];cases hc:Nat.beq a s&&Nat.beq b t with
   |true=>rw[xc6]at hc;have:=xcb hc.1;simp[show fc<=s by omega]
   |false=>simp
  |false=>
   have h1:¬fc<=a:=λh=>by have:Nat.ble fc a=true:=xfb h;rw[this]at ha;cases ha
   simp only[xcv,xck,R6 r,tI];by_cases hs:fc<=s
   .have:Nat.beq a s=false:=nbeq (by omega);simp[this]
   .rw[xc1 hs,xc1 hs]
theorem z8{u fc:Nat}{i:Id}:wT u fc i=true↔i.1=u/\fc<=i.2.1:=by unfold wT;rw[xc6];exact⟨λh=>⟨xcb h.1,xdh h.2⟩,λh=>⟨by rw[h.1];exact xdi _,xfb h.2⟩⟩
theorem hide_get{u fc:Nat}{m:Mem}(i:Id):(hideM u fc m).get i=if wT u fc i=true then none else m.get i:=by
 show tI (sJ (z2 u fc m.hp) i.1) i.2.1 i.2.2=_;rw[x6a];by_cases hi:i.1=u
 .rw[xc2 hi,J7];by_cases hf:fc<=i.2.1
  .rw[xc2 hf,xc2 (z8.2 ⟨hi,hf⟩)]
  .rw[xc1 hf,xc1 (λh=>hf (z8.1 h).2)];rfl
 .rw[xc1 hi,xc1 (λh=>hi (z8.1 h).1)];rfl
theorem back_get{u fc:Nat}{m m':Mem}(i:Id):(backM u fc m m').get i=if wT u fc i=true then m.get i else m'.get i:=by
 show tI (sJ (a9 _ m'.hp u) i.1) i.2.1 i.2.2=_;rw[J2];by_cases hi:i.1=u
 .rw[xc2 hi,R6,J7];by_cases hf:fc<=i.2.1
  .rw[xc2 hf,xc2 (z8.2 ⟨hi,hf⟩),xc2 hf];show _=tI (sJ m.hp i.1) i.2.1 i.2.2;rw[hi];split
   .rename_i e;exact e.symm
   .rename_i e;exact e.symm
  .rw[xc1 hf,xc1 (λh=>hf (z8.1 h).2),xc1 hf,<-hi];rfl
 .rw[xc1 hi,xc1 (λh=>hi (z8.1 h).1)];rfl
theorem fxInv9_ok(hc:yU P pol call){hs:FHs}{A:Nat->Hs}(hm:Mono A)(hu:Under hs A){u fc mode:Nat}{fv:AV}{args:List AV}{m m':Mem}{r:AV}(h:Q9 call u fc hs mode fv args m=some (r,m')):∃n,tZ (rV P pol n) u fc (A n) mode fv args m.st=some (r,m'.st):=by
 unfold Q9 at h;cases h9:Nat.beq mode 9 with
 |true=>
  have e:=xcb h9;subst e;simp only[h9,cond_true]at h;cases fv with
  |clo f caps=>
   simp only[sCall9,xc5,xc3]at h;obtain⟨p,hp,rfl,rfl⟩:=h;obtain⟨n,hn⟩:=hc _ _ _ _ _ _ _ Mono.nil Under.nil hp;refine⟨n,?_⟩;unfold tZ;rw[xc2 rfl];have e1:yL u fc m.st=(hideM u fc m).st:=by
    unfold yL Mem.st;simp only
    congr 1;funext i;exact(hide_get i).symm
   have hn':rV P pol n [] f (args++caps) (yL u fc m.st)=some (p.1,p.2.st):=(by rw[e1];exact hn);simp only[hn'];congr 2;unfold G8 Mem.st;simp only
   congr 1;funext i;exact(back_get i).symm
  |_=>cases h
 |false=>simp only[h9,cond_false]at h;obtain⟨n,hn⟩:=x69 hc hm hu h;refine⟨n,?_⟩;unfold tZ;rw[xc1 (λe=>by rw[e]at h9;simp at h9)];exact hn
def FCtx.c(c:FCtx)(hs:Hs):Ctx:={f:=c.f,u:=c.u,nt:=c.nt,hs:=hs}
theorem R7{ops:Array Oper}{o:Oper}{sl:Nat->AV}:vE ops o sl=I8 ops o.guard sl:=by
 unfold vE I8;cases o.guard with
 |none=>rfl
 |some g=>
  obtain⟨j,w⟩:=g;simp only
  cases(ops[j]?).bind (·.dst)with
  |none=>rfl
  |some t=>simp only[sW];rfl
theorem R8{c:FCtx}{hs:Hs}{dst:Option Tmp}{v:AV}{s:Fs}{k:Fs->Option R}{r:R}(h:fput c.nt dst v s k=some r):∃s',put (c.c hs) dst v s.s=some s'.s/\k s'=some r/\s'.fc=s.fc/\s'.m=s.m:=by
 unfold fput at h;split at h
 .rename_i d;cases hd:Nat.blt d c.nt with
  |false=>rw[hd]at h;cases h
  |true=>rw[hd]at h;exact⟨_,by simp only[put];rw[xc2 (show d<(c.c hs).nt from xdh hd)];rfl,h,rfl,rfl⟩
 .exact⟨s,rfl,h,rfl,rfl⟩
theorem fop_ok(hc:yU P pol call){c:FCtx}{A:Nat->Hs}(hm:Mono A)(hu:Under c.hs A){ops:Array Oper}{i:Nat}{o:Oper}(ho:ops[i]?=some o){s:Fs}{k:AV->Mem->Option R}{r:R}(h:sZ P pol call {c with fc:=s.fc} (c.u,s.fc+i,o.dst.getD 0) o s.sl s.m k=some r)(hw:vE ops o s.sl=true) :
 ∃v m',k v m'=some r/\∃n,∀s1,put (c.c (A n)) o.dst v {s with m:=m' }.s=some s1->tB P pol (rV P pol n) (c.c (A n)) ops i s.s=some s1:=by
 by_cases hn:rN o=true
 .obtain⟨dst,op,type,pos,after,guard⟩:=o;cases op with
  |call cl=>
   obtain⟨callee,args,argTypes⟩:=cl;cases callee with
   |value fv=>
    simp only[sZ]at h;rw[xdb]at h;obtain⟨⟨v,m'⟩,h1,h2⟩:=h;obtain⟨n,hn⟩:=fxInv9_ok hc hm hu h1;refine⟨v,m',h2,n,λs1 hp=>?_⟩;unfold tB;rw[ho];simp only
    have hw':vE ops {dst:=dst,op:=Op.call {callee:=Callee.value fv,args:=args,argTypes:=argTypes},type:=type,pos:=pos,after:=after,guard:=guard} s.s.sl=true:=hw;rw[xc2 hw'];have hn':tZ (rV P pol n) (c.c (A n)).u s.s.fc (c.c (A n)).hs (nm (pol (c.c (A n)).f (dst.getD 0))) (ev s.s.sl fv) (args.toList.map (ev s.s.sl)) s.s.st=some (v,m'.st):=hn;rw[hn'];exact hp
   |_=>simp[rN]at hn
  |_=>simp[rN]at hn
 .have hn':rN o=false:=(by simpa using hn);by_cases hi:∃rv name args at',o.op=.call ⟨.invoke rv name,args,at'⟩
  .obtain⟨rv,name,args,at',hop⟩:=hi;obtain⟨dst,op,type,pos,after,guard⟩:=o;simp only at hop;subst hop;simp only[sZ,fxMeth]at h;rw[xdb]at h;obtain⟨⟨v,m'⟩,h1,h2⟩:=h;rw[xdb]at h1;obtain⟨p,hp,h1⟩:=h1;obtain⟨n,hn⟩:=x69 hc hm hu h1;refine⟨v,m',h2,n,λs1 hp1=>?_⟩;unfold tB;rw[ho];simp only
   have hw':vE ops {dst:=dst,op:=Op.call {callee:=Callee.invoke rv name,args:=args,argTypes:=at' },type:=type,pos:=pos,after:=after,guard:=guard} s.s.sl=true:=hw;rw[xc2 hw'];have hn':rZ (rV P pol n) (c.c (A n)).hs (nm (pol (c.c (A n)).f (dst.getD 0))) (.clo p.1 []) (p.2::args.toList.map (ev s.s.sl)) s.s.st=some (v,m'.st):=hn;have hp':y6 P (ev s.s.sl rv) name=some p:=hp;simp only[hp',hn'];exact hp1
  obtain⟨v,m',h1,h2,h3⟩:=fxOp_ok hn' (λrv name args at' e=>hi ⟨rv,name,args,at',e⟩) h;refine⟨v,m',h3,0,λs1 hp=>?_⟩;unfold tB;rw[ho];simp only
  have hw':vE ops o s.s.sl=true:=hw;rw[xc2 hw'];have h1':qH P ((c.c (A 0)).u,s.s.fc+i,o.dst.getD 0) o s.s.sl s.s.st.objs=some (v,m'.get):=h1;have hp':put (c.c (A 0)) o.dst v {s.s with st:={s.s.st with objs:=m'.get}}=some s1:=(by have:({s with m:=m' }:Fs).s={s.s with st:={s.s.st with objs:=m'.get}}:=(by simp only[Fs.s,Mem.st,h2]);rw[<-this];exact hp);split
  .rename_i fv args at' e;have:rN o=true:=(by simp only[rN,e]);rw[this]at hn';cases hn'
  .rename_i rv name args at' e;exact absurd ⟨rv,name,args,at',e⟩ hi
  .rw[h1'];exact hp'
theorem fstep_ok(hc:yU P pol call){c:FCtx}{A:Nat->Hs}(hm:Mono A)(hu:Under c.hs A){ops:Array Oper}{i:Nat}{s:Fs}{k:Fs->Option R}{r:R}(h:R3 P pol call c ops i s k=some r):∃s',k s'=some r/\s'.fc=s.fc/\∃n,tB P pol (rV P pol n) (c.c (A n)) ops i s.s=some s'.s:=by
 unfold R3 at h;split at h
 .rename_i e;exact⟨s,h,rfl,0,by unfold tB;rw[e]⟩
 .rename_i o e;split at h
  .rename_i hg;obtain⟨v,m',h1,n,h2⟩:=fop_ok hc hm hu e h (by rw[R7,hg];rfl);obtain⟨s',h3,h4,h5,h6⟩:=R8 (hs:=A n) h1;exact⟨s',h4,h5,n,h2 _ h3⟩
  .rename_i g hg;rw[xdb]at h;obtain⟨⟨v,m'⟩,h1,h2⟩:=h;cases hw:I8 ops (some g) s.sl with
   |true=>rw[hw,cond_true]at h1;obtain⟨v1,m1,h3,n,h4⟩:=fop_ok hc hm hu e h1 (by rw[R7,hg];exact hw);cases h3;obtain⟨s',h5,h6,h7,h8⟩:=R8 (hs:=A n) h2;exact⟨s',h6,h7,n,h4 _ h5⟩
   |false=>
    rw[hw,cond_false]at h1;cases h1;obtain⟨s',h5,h6,h7,h8⟩:=R8 (hs:=A 0) h2;refine⟨s',h6,h7,0,?_⟩;unfold tB;rw[e];simp only
    rw[xc1 (by rw[show s.s.sl=s.sl from rfl,R7,hg,hw];simp)];exact h5
theorem frun_ok(hc:yU P pol call){c:FCtx}{A:Nat->Hs}(hm:Mono A)(hu:Under c.hs A){ops:Array Oper}:∀{L:List Nat} {s:Fs} {k:Fs->Option R} {r:R},
 fxRun P pol call c ops L s k=some r->∃s',k s'=some r/\s'.fc=s.fc/\∃n,sX P pol (rV P pol n) (c.c (A n)) ops L s.s=some s'.s
 |[],s,k,r,h=>⟨s,h,rfl,0,rfl⟩
 |i::L,s,k,r,h=>by obtain⟨s1,h1,h2,n1,h3⟩:=fstep_ok hc hm hu h;obtain⟨s2,h4,h5,n2,h6⟩:=frun_ok hc hm hu h1;refine⟨s2,h4,h5.trans h2,max n1 n2,?_⟩;have q1:=step_le (R5 (P:=P) (pol:=pol) (Nat.le_max_left n1 n2)) (hm n1 (max n1 n2) (Nat.le_max_left ..)) h3;have q2:=N0 (R5 (P:=P) (pol:=pol) (Nat.le_max_right n1 n2)) (hm n2 (max n1 n2) (Nat.le_max_right ..)) h6;simp only[sX];have q1':tB P pol (rV P pol (max n1 n2)) (c.c (A (max n1 n2))) ops i s.s=some s1.s:=q1;rw[q1'];exact q2
theorem R9{id0:Id}{o:Oper}{sl:Nat->AV}:tch id0 o sl=qY id0 o sl:=by
 obtain⟨dst,op,type,pos,after,guard⟩:=o;unfold tch;cases op with
 |load t a=>rfl
 |store t a x=>rfl
 |slice t x lo hi mx=>rfl
 |lookup t x ix ok=>rfl
 |call cl=>
  obtain⟨callee,args,argTypes⟩:=cl;simp only
  split
  .rename_i s x e2;simp only[qY,e2];rfl
  .rename_i s x e2;simp only[qY,e2];rfl
  .rfl
 |_=>rfl
theorem S0{mode:Nat}{o:Oper}{sl:Nat->AV}:mkO mode o sl=sI mode o sl:=by
 obtain⟨dst,op,type,pos,after,guard⟩:=o;cases op with
 |call cl=>
  obtain⟨callee,args,argTypes⟩:=cl;cases callee with
  |value fv=>rfl
  |_=>rfl
 |_=>rfl
theorem meek_le{mode:Nat}{o:Oper}{sl:Nat->AV}:sI mode o sl<=2:=by
 rw[<-S0];unfold mkO mkD mkM;split
 .split
  .split
   .split
    .omega
    .split<;>omega
   .omega
  .omega
 .omega
theorem cAp_ok{mode:Nat}{lim:Option Nat}{id0:Id}{x y:Oper}{sl:Nat->AV}(hy:rN y=false)(h:cAp lim (tch id0 y sl) (mkO mode x sl)=true):wU mode lim id0 x y sl=true:=by
 unfold wU;rw[R9,S0]at h;rw[hy];simp only[xdf,xda];unfold cAp at h;split at h
 .rename_i r ws e;rw[e];simp only
  rw[xc6]at h ⊢;refine⟨?_,?_⟩
  .have h1:=h.1;cases lim with
   |none=>rfl
   |some n=>simp only at h1 ⊢;rw[xc8]at h1 ⊢;intro i hi;exact xdl (xdh (h1 i hi))
  .have h2:=h.2;rw[xd3,xc6]at h2 ⊢;rcases h2 with h2|⟨h2,h3⟩
   .exact Or.inl (by rw[xcb h2];rfl)
   .exact Or.inr ⟨by rw[xcb h2];rfl,h3⟩
 .cases h
theorem x9e{c:FCtx}{hs:Hs}{fc next0:Nat}{ops:Array Oper}{i j:Nat}{sl:Nat->AV}(h:I9 pol c.f c.u fc next0 ops i j sl=true):pairOK pol (c.c hs) fc next0 ops i j sl=true:=by
 unfold I9 at h;unfold pairOK;split at h
 .rename_i x y e1 e2;rw[e1,e2];simp only
  rw[xc6]at h ⊢;refine⟨h.1,?_⟩;rw[xd3];right;have h2:=h.2;split at h2
  .rename_i hx;rw[xc2 hx];rw[xc6]at h2;exact cAp_ok (by simpa using h2.1) h2.2
  .rename_i hx;rw[xc1 hx];split at h2
   .rename_i hy;rw[xc2 hy];exact cAp_ok (by simpa using hx) h2
   .rename_i hy;rw[xc1 hy];rw[R9,R9]at h2;exact h2
 .cases h
theorem softP_ok{c:FCtx}{hs:Hs}{fc next0:Nat}{ops:Array Oper}{i j:Nat}{sl:Nat->AV}(h:z3 pol c.f ops i j=true):pairOK pol (c.c hs) fc next0 ops i j sl=true:=by
 unfold z3 at h;unfold pairOK;split at h
 .rename_i x y e1 e2;rw[e1,e2];simp only
  rw[xc6]at h ⊢;refine⟨h.1,?_⟩;rw[xd3];exact Or.inl h.2
 .cases h
theorem x9f{op:Op}(h:tQ op=true):wS op=true:=by
 cases op with
 |call c=>
  obtain⟨callee,args,argTypes⟩:=c;cases callee with
  |builtin b=>cases b<;>simp[tQ]at h<;>rfl
  |_=>simp[tQ]at h
 |_=>first|(simp[tQ]at h;done)|rfl
theorem x6b{f:Nat}{ops:Array Oper}{i:Nat}{x:Oper}{y:Op}(hx:ops[i]?=some x)(h:D5 pol f ops i=true)(hy:tQ y=true):xJ (pol f (x.dst.getD 0)) x y=true:=by
 unfold D5 at h;rw[hx]at h;simp only at h;unfold xJ;rw[xc6]at h ⊢;refine⟨h.1,?_⟩;have hq:zM y=true:=hy;have hr:=x9f hy;rw[hr,hq];have h2:=h.2;simp only[xd3,xc6,xda,Bool.or_true]at h2 ⊢;rcases h2 with h2|h2
 .exact .inl (.inr h2)
 .exact .inr h2
theorem D9{id0:Id}{o:Oper}{sl:Nat->AV}(h:tQ o.op=true):qY id0 o sl=(some [],some []):=by
 obtain⟨dst,op,type,pos,after,guard⟩:=o;cases op with
 |call cl=>
  obtain⟨callee,args,argTypes⟩:=cl;cases callee with
  |builtin b=>cases b<;>first|rfl|(simp[tQ]at h)
  |_=>simp[tQ]at h
 |_=>first|rfl|(simp[tQ]at h)
theorem x6c{id0:Id}{o:Oper}{sl:Nat->AV}(h:J0 o.op=true):∃r,qY id0 o sl=(some r,some []):=by
 unfold J0 at h;rw[xd3]at h;rcases h with h|h
 .exact⟨[],D9 h⟩
 .obtain⟨dst,op,type,pos,after,guard⟩:=o;cases op with
  |load t a=>simp only[qY];split<;>exact⟨_,rfl⟩
  |slice t x lo hi mx=>simp only[qY];split<;>exact⟨_,rfl⟩
  |lookup t x ix ok=>simp only[qY];split<;>exact⟨_,rfl⟩
  |_=>simp at h
theorem stFine_ok{c:FCtx}{hs:Hs}{fc next0:Nat}{ops:Array Oper}{i j:Nat}{sl:Nat->AV}(h:D4 ops i j=true)(hmk:∀x y,ops[i]?=some x->ops[j]?=some y->(rN x=true->tQ y.op=true->1<=sI (nm (pol c.f (x.dst.getD 0))) x sl)/\(rN y=true->tQ x.op=true->1<=sI (nm (pol c.f (y.dst.getD 0))) y sl)) :
 pairOK pol (c.c hs) fc next0 ops i j sl=true:=by
 unfold D4 at h;unfold pairOK;split at h
 .rename_i x y e1 e2;obtain⟨hm1,hm2⟩:=hmk x y e1 e2;rw[e1,e2];simp only
  rw[xc6]at h ⊢;refine⟨h.1,?_⟩;rw[xd3];right;have meek12:∀{mode:Nat} {x:Oper},1<=sI mode x sl->(sI mode x sl == 2||(sI mode x sl == 1&&([]:List Id).isEmpty))=true:=(by intro mode x h1;have:=meek_le (mode:=mode) (o:=x) (sl:=sl);have:sI mode x sl=1\/sI mode x sl=2:=(by omega);rcases this with e|e<;>rw[e]<;>rfl);have h2:=h.2;rw[xd3]at h2;rcases h2 with h2|h2
  .rw[xc6,xc6]at h2;obtain⟨⟨hx,hy⟩,h3⟩:=h2;rw[xc1 (by simpa using hx),xc1 (by simpa using hy)];rw[xd3,xd3,xc6]at h3;rcases h3 with (h3|h3)|⟨h3,h4⟩
   .rw[D9 h3];rfl
   .rw[D9 h3];unfold rB;split<;>simp_all
   .obtain⟨r1,q1⟩:=x6c (id0:=((c.c hs).u,fc+i,x.dst.getD 0)) (sl:=sl) h3;obtain⟨r2,q2⟩:=x6c (id0:=((c.c hs).u,fc+j,y.dst.getD 0)) (sl:=sl) h4;rw[q1,q2];unfold rB;split
    .rfl
    .rfl
    .rename_i e3 e4;cases e3;cases e4;simp[vU]
    .rename_i n1 n2 n3;exact(n3 _ _ _ _ rfl rfl).elim
  .unfold ncPair at h2;rw[xd3,xc6,xc6,xc6,xc6]at h2;rcases h2 with ⟨⟨h3,h4⟩,h5⟩|⟨⟨h3,h4⟩,h5⟩
   .rw[xc2 h3];unfold wU;rw[h4,D9 h5];simp only[xda,xe6,xfc];exact meek12 (hm1 h3 h5)
   .have hx:rN x=false:=(by simpa using h4);rw[xc1 (by rw[hx];simp),xc2 h3];unfold wU;rw[hx,D9 h5];simp only[xdf,xda];exact meek12 (hm2 h3 h5)
 .cases h
theorem S1{f:Nat}{ops:Array Oper}{sl:Nat->AV}:∀{l:List Nat},u2 pol f ops sl l=true->∀j∈l,∃o,ops[j]?=some o/\1<=sI (nm (pol f (o.dst.getD 0))) o sl
 |[],_,j,hj=>by cases hj
 |a::l,h,j,hj=>by
  simp only[u2,xc6]at h;rcases xce.mp hj with rfl|hj
  .have h1:=h.1;split at h1
   .rename_i o e;rw[S0]at h1;exact⟨o,e,xdh h1⟩
   .cases h1
  .exact S1 h.2 j hj
theorem x6d{f u fc next0:Nat}{ops:Array Oper}{sl:Nat->AV}:∀{l:List (Nat×Nat)},yR pol f u fc next0 ops sl l=true->∀p∈l,I9 pol f u fc next0 ops p.1 p.2 sl=true
 |[],_,p,hp=>by cases hp
 |(i,j)::l,h,p,hp=>by
  simp only[yR,xc6]at h;rcases xce.mp hp with rfl|hp
  .exact h.1
  .exact x6d h.2 p hp
theorem fdraw_ok{c:FCtx}{hs:Hs}{fc next0:Nat}{ops:Array Oper}{sl:Nat->AV}(h1:J1 P ops=true)(h2:u2 pol c.f ops sl (D6 pol c.f ops)=true)(h3:yR pol c.f c.u fc next0 ops sl (z4 pol c.f ops)=true) :
 l7 P pol (c.c hs) fc next0 ops sl=true:=by
 unfold l7;unfold J1 at h1;simp only at h1 ⊢;rw[xc8]at h1 ⊢;intro j hj;have h1j:=h1 j hj;rw[xc6,xc6]at h1j ⊢;refine⟨h1j.1,?_⟩;have h4:=h1j.2;rw[xc8]at h4 ⊢;intro i hi;rw[xc6];refine⟨h4 i hi,?_⟩;rw[xd3];by_cases hb:((xK ops).getD j []).contains i=true
 .exact Or.inl hb
 .right;by_cases hsf:z3 pol c.f ops i j=true
  .exact softP_ok hsf
  by_cases hf:D4 ops i j=true
  .refine stFine_ok hf λx y e1 e2=>?_
   have hap:x.apart ops y=true:=(by unfold D4 at hf;rw[e1,e2]at hf;simp only[xc6]at hf;exact hf.1);have nsx:tQ y.op=true->D5 pol c.f ops i=false:=λhy=>by rw[xcz];intro ha;apply hsf;unfold z3;rw[e1,e2];simp only[hap,x6b e1 ha hy,Bool.true_or,xez]
   have nsy:tQ x.op=true->D5 pol c.f ops j=false:=λhx=>by rw[xcz];intro ha;apply hsf;unfold z3;rw[e1,e2];simp only[hap,x6b e2 ha hx,Bool.or_true,xez]
   have hij:i<j:=xcs.mp hi;have hjn:j<ops.size:=xcs.mp hj;have hbi:((xK ops).getD i []).contains j=false:=(by have:=h1 i (xcs.mpr (by omega));rw[xc6,xc6]at this;have h5:=this.1.2;rw[xc8]at h5;rw[xcz];intro hc;have:=h5 j (List.contains_iff_mem.mp hc);have:=xdz this;omega);have hn:∀o,rN o=true->tQ o.op=true->False:=by
    intro o a b;obtain⟨dst,op,type,pos,after,guard⟩:=o;cases op with
    |call cl=>obtain⟨callee,args,argTypes⟩:=cl;cases callee<;>simp[rN,tQ]at a b
    |_=>simp[rN]at a
   refine⟨λhx hy=>?_,λhy hx=>?_⟩
   .obtain⟨o,e3,e4⟩:=S1 h2 i (by
     unfold D6
     rw[xcn]
     refine⟨?_,by rw[nsx hy];rfl⟩
     unfold R4
     simp only[xcn,xcs]
     refine⟨by omega,?_⟩
     rw[xc6,e1]
     refine⟨hx,?_⟩
     rw[List.any_eq_true]
     refine⟨j,hj,?_⟩
     rw[e2]
     have hyc:rN y=false:=by
      rw[xcz];exact λe=>hn y e hy
     simp only[hyc,hy,hbi,xdf,xda]
     simpa using hb)
    rw[e1]at e3;cases e3;exact e4
   .obtain⟨o,e3,e4⟩:=S1 h2 j (by
     unfold D6
     rw[xcn]
     refine⟨?_,by rw[nsy hx];rfl⟩
     unfold R4
     simp only[xcn,xcs]
     refine⟨by omega,?_⟩
     rw[xc6,e2]
     refine⟨hy,?_⟩
     rw[List.any_eq_true]
     refine⟨i,xcs.mpr (by omega),?_⟩
     rw[e1]
     have hxc:rN x=false:=by
      rw[xcz];exact λe=>hn x e hx
     simp only[hxc,hx,hbi,xdf,xda,xem]
     simpa using hb)
    rw[e2]at e3;cases e3;exact e4
  .refine x9e (x6d h3 (i,j) ?_);unfold z4;rw[xcn];refine⟨?_,by simpa using hsf⟩;unfold x63;simp only[xdc,xch,xcn];refine⟨j,hj,i,⟨hi,?_⟩,rfl⟩;simp only[xgb]at hf hb;simp only[hf,hb,Bool.or_self,xdf]
theorem freg_ok(hc:yU P pol call){c:FCtx}{A:Nat->Hs}(hm:Mono A)(hu:Under c.hs A){ops:Array Oper}{draw:Bool}{s:Fs}{k:Fs->Option R}{r:R}(h:fxReg P pol call c ops draw s k=some r):∃s',k s'=some r/\∃n,wA P pol (rV P pol n) (c.c (A n)) ops draw s.s=some s'.s:=by
 unfold fxReg at h;obtain⟨s1,h1,h2,n,h3⟩:=frun_ok hc hm hu h;cases draw with
 |false=>refine⟨{s1 with fc:=s.fc+ops.size},h1,n,?_⟩;unfold wA;rw[h3];rfl
 |true=>
  rw[cond_true]at h1;cases hml:zO P ops s1.sl with
  |true=>rw[hml]at h1;cases h1
  |false=>
  cases hd:J1 P ops with
  |false=>rw[hml,hd]at h1;cases h1
  |true=>
   rw[hml,hd,xdf,xda,cond_true]at h1;have key:u2 pol c.f ops s1.sl (D6 pol c.f ops)=true->yR pol c.f c.u s.fc s.m.next ops s1.sl (z4 pol c.f ops)=true->k {s1 with fc:=s.fc+ops.size}=some r->∃s',k s'=some r/\∃n,wA P pol (rV P pol n) (c.c (A n)) ops true s.s=some s'.s:=by
    intro a b e;refine⟨_,e,n,?_⟩;unfold wA;rw[h3];simp only
    have hdr:l7 P pol (c.c (A n)) s.s.fc s.s.st.next ops s1.s.sl=true:=fdraw_ok hd a b;rw[hdr,show zO P ops s1.s.sl=false from hml];rfl
   split at h1
   .rename_i e1;split at h1
    .rename_i e2;exact key (by rw[e1];rfl) (by rw[e2];rfl) h1
    .rename_i p q e2;cases hy:yR pol c.f c.u s.fc s.m.next ops s1.sl (p::q)with
     |false=>rw[hy]at h1;cases h1
     |true=>rw[hy]at h1;exact key (by rw[e1];rfl) (by rw[e2];exact hy) h1
   .rename_i a b e1;cases hy:(u2 pol c.f ops s1.sl (a::b)&&yR pol c.f c.u s.fc s.m.next ops s1.sl (z4 pol c.f ops))with
    |false=>rw[hy]at h1;cases h1
    |true=>rw[hy]at h1;rw[xc6]at hy;exact key (by rw[e1];exact hy.1) hy.2 h1
end Go.Ix
