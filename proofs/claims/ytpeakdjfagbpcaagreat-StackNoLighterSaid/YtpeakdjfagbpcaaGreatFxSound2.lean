import Derived.Test.YtpeakdjfagbpcaaGreatFxSound
import Derived.Test.YtpeakdjfagbpcaaGreatFxRules
namespace Go.Ix
variable{P:Program}{pol:Pol}{N:Nat}{call:x2g1}{R:Type}
def Kont(X:Fs->Option R)(E:Nat->Fs->Option R)(T:Fs->Option R):Out->Fs->Option R
 | .normal=>X
 | .exit i=>E i
 | .ret=>T
def Runs(P:Program)(pol:Pol)(A:Nat->Hs)(c:FCtx)(code:Code)(s:S)(o:Out)(s':S):Prop:=∃n,ix P pol n (c.c (A n)) code s=some (o,s')
theorem Runs.at{A:Nat->Hs}(hm:Mono A){c:FCtx}{code:Code}{s s':S}{o:Out}{n m:Nat}(h:ix P pol n (c.c (A n)) code s=some (o,s'))(hnm:n<=m):ix P pol m (c.c (A m)) code s=some (o,s'):=
 x2jz hnm (c.c (A n)) (A m) code s (o,s') (hm n m hnm) h
theorem x2rt:∀(ps:List Tmp) (pre args:List AV) (sl:Nat->AV),args.length=ps.length->bindF ps pre.length (pre++args) sl=x2ig ps args sl
 |[],pre,[],sl,_=>rfl
 |[],pre,_::_,sl,h=>by simp at h
 |p::ps,pre,[],sl,h=>by simp at h
 |p::ps,pre,a::q,sl,h=>by
  simp only[bindF,x2ig]
  have:(pre++a::q).getD pre.length U=a:=by simp[List.getD_eq_getElem?_getD]
  rw[this]
  have:=x2rt ps (pre++[a]) q (upd sl p a) (by simpa using h)
  rw[List.length_append,List.append_assoc]at this
  exact this
def hOf(P:Program)(pol:Pol)(n:Nat)(c:Ctx)(params:Array Tmp)(assign body:Code)(sl:Nat->AV):List AV->St->Option St:=fun args st=>
 if args.length=params.size/\params.all (· < c.nt)then
  let c':={c with u:=st.next}
  let s0:S:={sl:=x2ig params.toList args sl,st:={st with next:=st.next+1},fc:=0}
  match ix P pol n c' assign s0 with
  |some (.normal,s1)=>match ix P pol n c' body s1 with
   |some (.normal,s2)=>some s2.st
   |_=>none
  |_=>none
 else none
theorem hOf_le{n m:Nat}(h:n<=m){c:Ctx}{hs':Hs}(hh:HLe c.hs hs'){params:Array Tmp}{assign body:Code}{sl:Nat->AV}{args:List AV}{st st':St}(e:hOf P pol n c params assign body sl args st=some st') :
 hOf P pol m {c with hs:=hs' } params assign body sl args st=some st':=by
 unfold hOf at e ⊢
 simp only at e ⊢
 split at e
 .rename_i hc
  rw[if_pos hc]
  split at e
  .rename_i s1 e1
   have q1:=x2jz h {c with u:=st.next} hs' _ _ _ hh e1
   simp only at q1
   rw[q1]
   simp only
   split at e
   .rename_i s2 e2
    have q2:=x2jz h {c with u:=st.next} hs' _ _ _ hh e2
    simp only at q2
    rw[q2]
    exact e
   .cases e
  .cases e
 .cases e
theorem ix_rng{n:Nat}{c:Ctx}{f:Operand}{params:Array Tmp}{assign body:Code}{s:S}:ix P pol (n+1) c (.rangeFunc f params assign body) s=(match ev s.sl f with
 | .clo g caps=>match x2h0 P pol n (((c.u,s.fc,0),hOf P pol n c params assign body s.sl)::c.hs) g (.yld (c.u,s.fc,0)::caps) s.st with
   |some (_,st')=>some (.normal,{s with st:=st',fc:=s.fc+1})
   |none=>none
 |_=>none):=rfl
theorem x2k5(hc:x2kg P pol call):∀(code:Code) {R:Type} {c:FCtx} {A:Nat->Hs} {X:Fs->Option R} {E:Nat->Fs->Option R} {T:Fs->Option R} {s:Fs} {r:R},Mono A->Under c.hs A ->
 fxK P pol N call code R c X E T s=some r->∃o s',Kont X E T o s'=some r/\Runs P pol A c code s.s o s'.s
 | .skip,R,c,A,X,E,T,s,r,hm,hu,h=>⟨.normal,s,h,1,rfl⟩
 | .region id ops draw,R,c,A,X,E,T,s,r,hm,hu,h=>by
   obtain⟨s',h1,n,h2⟩:=freg_ok hc hm hu h
   refine⟨.normal,s',h1,n+1,?_⟩
   have h3:=x2qb (callLe (P:=P) (pol:=pol) (Nat.le_refl n)) (hm n (n+1) (by omega)) h2
   show(x2ip P pol (x2h0 P pol n) (c.c (A (n+1))) ops draw s.s).map (fun s'=>(Out.normal,s'))=_
   rw[show x2ip P pol (x2h0 P pol n) (c.c (A (n+1))) ops draw s.s=some s'.s from h3]
   rfl
 | .seq a b,R,c,A,X,E,T,s,r,hm,hu,h=>by
   obtain⟨o,s1,h1,n1,h2⟩:=x2k5 hc a hm hu h
   cases o with
   |normal=>
    obtain⟨o2,s2,h3,n2,h4⟩:=x2k5 hc b hm hu (show fxK P pol N call b R c X E T s1=some r from h1)
    refine⟨o2,s2,h3,max n1 n2+1,?_⟩
    have q1:=Runs.at hm h2 (show n1<=max n1 n2+1 by omega)
    have q2:=Runs.at hm h4 (show n2<=max n1 n2+1 by omega)
    show(match ix P pol (max n1 n2+1) (c.c (A (max n1 n2+1))) a s.s with
     |some (.normal,s')=>ix P pol (max n1 n2+1) (c.c (A (max n1 n2+1))) b s'
     |r=>r)=_
    rw[q1]
    exact q2
   |exit i=>
    refine⟨.exit i,s1,h1,n1+1,?_⟩
    have q1:=Runs.at hm h2 (show n1<=n1+1 by omega)
    show(match ix P pol (n1+1) (c.c (A (n1+1))) a s.s with
     |some (.normal,s')=>ix P pol (n1+1) (c.c (A (n1+1))) b s'
     |r=>r)=_
    rw[q1]
   |ret=>
    refine⟨.ret,s1,h1,n1+1,?_⟩
    have q1:=Runs.at hm h2 (show n1<=n1+1 by omega)
    show(match ix P pol (n1+1) (c.c (A (n1+1))) a s.s with
     |some (.normal,s')=>ix P pol (n1+1) (c.c (A (n1+1))) b s'
     |r=>r)=_
    rw[q1]
 | .cond x a b,R,c,A,X,E,T,s,r,hm,hu,h=>by
   have h':x2g2 (ev s.sl x) (fxK P pol N call a R c X E T s) (fxK P pol N call b R c X E T s)=some r:=h
   unfold x2g2 at h'
   split at h'
   .rename_i e
    obtain⟨o,s1,h1,n1,h2⟩:=x2k5 hc a hm hu h'
    refine⟨o,s1,h1,n1+1,?_⟩
    have q1:=Runs.at hm h2 (show n1<=n1+1 by omega)
    show(match ev s.s.sl x with
     | .sc (.bool true)=>ix P pol (n1+1) (c.c (A (n1+1))) a s.s
     | .sc (.bool false)=>ix P pol (n1+1) (c.c (A (n1+1))) b s.s
     |_=>none)=_
    rw[show ev s.s.sl x=.sc (.bool true)from e]
    exact q1
   .rename_i e
    obtain⟨o,s1,h1,n1,h2⟩:=x2k5 hc b hm hu h'
    refine⟨o,s1,h1,n1+1,?_⟩
    have q1:=Runs.at hm h2 (show n1<=n1+1 by omega)
    show(match ev s.s.sl x with
     | .sc (.bool true)=>ix P pol (n1+1) (c.c (A (n1+1))) a s.s
     | .sc (.bool false)=>ix P pol (n1+1) (c.c (A (n1+1))) b s.s
     |_=>none)=_
    rw[show ev s.s.sl x=.sc (.bool false)from e]
    exact q1
   .cases h'
 | .block id b,R,c,A,X,E,T,s,r,hm,hu,h=>by
   obtain⟨o,s1,h1,n1,h2⟩:=x2k5 hc b hm hu h
   have q1:=Runs.at hm h2 (show n1<=n1+1 by omega)
   have key:∀o':Out,(match (some (o,s1.s):Option (Out×S))with|some (Out.exit id',s')=>if id'=id then some (Out.normal,s')else some (Out.exit id',s')|r=>r)=some (o',s1.s)->Runs P pol A c (.block id b) s.s o' s1.s:=by
    intro o' e
    refine⟨n1+1,?_⟩
    show(match ix P pol (n1+1) (c.c (A (n1+1))) b s.s with
     |some (Out.exit id',s')=>if id'=id then some (Out.normal,s')else some (Out.exit id',s')
     |r=>r)=_
    rw[q1]
    exact e
   cases o with
   |normal=>exact⟨.normal,s1,h1,key _ rfl⟩
   |ret=>exact⟨.ret,s1,h1,key _ rfl⟩
   |exit i=>
    have h1':(bif Nat.beq i id then X else E i) s1=some r:=h1
    by_cases hi:i=id
    .subst hi
     rw[show Nat.beq i i=true from by simp]at h1'
     exact⟨.normal,s1,h1',key _ (by simp)⟩
    .rw[show Nat.beq i id=false from by rw[Bool.eq_false_iff];intro e;exact hi (Nat.eq_of_beq_eq_true e)]at h1'
     exact⟨.exit i,s1,h1',key _ (by simp[hi])⟩
 | .loop b,R,c,A,X,E,T,s,r,hm,hu,h=>by
   have key:∀(j:Nat) (s:Fs),iter (fun rec=>fxK P pol N call b R c rec E T) j s=some r->∃o s',Kont X E T o s'=some r/\Runs P pol A c (.loop b) s.s o s'.s:=by
    intro j
    induction j with
    |zero=>intro s h;simp[iter]at h
    |succ j ih=>
     intro s h
     obtain⟨o,s1,h1,n1,h2⟩:=x2k5 hc b hm hu (show fxK P pol N call b R c (iter (fun rec=>fxK P pol N call b R c rec E T) j) E T s=some r from h)
     cases o with
     |normal=>
      obtain⟨o2,s2,h3,n2,h4⟩:=ih s1 h1
      refine⟨o2,s2,h3,max n1 n2+1,?_⟩
      have q1:=Runs.at hm h2 (show n1<=max n1 n2+1 by omega)
      have q2:=x2jz (show n2<=max n1 n2 by omega) (c.c (A n2)) (A (max n1 n2+1)) _ _ _ (hm n2 (max n1 n2+1) (by omega)) h4
      show(match ix P pol (max n1 n2+1) (c.c (A (max n1 n2+1))) b s.s with
       |some (.normal,s')=>ix P pol (max n1 n2) (c.c (A (max n1 n2+1))) (.loop b) s'
       |r=>r)=_
      rw[q1]
      exact q2
     |exit i=>
      refine⟨.exit i,s1,h1,n1+1,?_⟩
      have q1:=Runs.at hm h2 (show n1<=n1+1 by omega)
      show(match ix P pol (n1+1) (c.c (A (n1+1))) b s.s with
       |some (.normal,s')=>ix P pol n1 (c.c (A (n1+1))) (.loop b) s'
       |r=>r)=_
      rw[q1]
     |ret=>
      refine⟨.ret,s1,h1,n1+1,?_⟩
      have q1:=Runs.at hm h2 (show n1<=n1+1 by omega)
      show(match ix P pol (n1+1) (c.c (A (n1+1))) b s.s with
       |some (.normal,s')=>ix P pol n1 (c.c (A (n1+1))) (.loop b) s'
       |r=>r)=_
      rw[q1]
   exact key N s h
 | .exit id,R,c,A,X,E,T,s,r,hm,hu,h=>⟨.exit id,s,h,1,rfl⟩
 | .ret,R,c,A,X,E,T,s,r,hm,hu,h=>⟨.ret,s,h,1,rfl⟩
 | .rangeFunc f params assign body,R,c,A,X,E,T,s,r,hm,hu,h=>by
   have h':sRng (ev s.sl f) (fun g caps=>(call (((c.u,s.fc,0),rndF c.nt params.size (fun u=>fxK P pol N call assign Mem {c with u:=u} (fxK P pol N call body Mem {c with u:=u} (fun s2=>some s2.m) eNil fNil) eNil fNil) params.toList s.sl)::c.hs)
    g (.yld (c.u,s.fc,0)::caps) s.m).bind fun p=>X {s with m:=p.2,fc:=s.fc+1})=some r:=h
   unfold sRng at h'
   split at h'
   .rename_i g caps e
    rw[Option.bind_eq_some_iff]at h'
    obtain⟨⟨v,m'⟩,h1,h2⟩:=h'
    have hm':Mono fun k=>((c.u,s.fc,0),hOf P pol k (c.c (A (k+1))) params assign body s.sl)::A (k+1):=by
     intro i j hij
     exact⟨rfl,fun args st st' e=>hOf_le hij (hm (i+1) (j+1) (by omega)) e,hm (i+1) (j+1) (by omega)⟩
    have hu':Under (((c.u,s.fc,0),rndF c.nt params.size (fun u=>fxK P pol N call assign Mem {c with u:=u} (fxK P pol N call body Mem {c with u:=u} (fun s2=>some s2.m) eNil fNil) eNil fNil) params.toList s.sl)::c.hs)
     fun k=>((c.u,s.fc,0),hOf P pol k (c.c (A (k+1))) params assign body s.sl)::A (k+1):=by
     intro id h0 hid args m m2 e0
     simp only[fhsAt]at hid
     by_cases hi:(c.u,s.fc,0)=id
     .rw[if_pos hi]at hid
      cases hid
      unfold rndF at e0
      cases hb:(Nat.beq args.length params.size&&params.toList.all (Nat.blt · c.nt))with
      |false=>rw[hb]at e0;cases e0
      |true=>
       rw[hb,cond_true]at e0
       rw[Bool.and_eq_true]at hb
       have hl:args.length=params.size:=Nat.eq_of_beq_eq_true hb.1
       obtain⟨o1,s1,g1,n1,g2⟩:=x2k5 hc assign (c:={c with u:=m.next}) hm hu e0
       have ho1:o1=.normal:=by cases o1<;>first|rfl|(simp[Kont,eNil,fNil]at g1)
       subst ho1
       obtain⟨o2,s2,g3,n2,g4⟩:=x2k5 hc body (c:={c with u:=m.next}) hm hu (show fxK P pol N call body Mem {c with u:=m.next} (fun s2=>some s2.m) eNil fNil s1=some m2 from g1)
       have ho2:o2=.normal:=by cases o2<;>first|rfl|(simp[Kont,eNil,fNil]at g3)
       subst ho2
       have g5:s2.m=m2:=by simpa[Kont]using g3
       subst g5
       refine⟨max n1 n2,hOf P pol (max n1 n2) (c.c (A (max n1 n2+1))) params assign body s.sl,by simp only[hsAt,if_pos hi],?_⟩
       unfold hOf
       have hall:params.all (fun x=>decide (x<c.nt))=true:=by
        rw[<-Array.all_toList,List.all_eq_true]
        have:=hb.2
        rw[List.all_eq_true]at this
        intro x hx
        exact decide_eq_true (Nat.le_of_ble_eq_true (this x hx))
       rw[if_pos ⟨hl,hall⟩]
       have q1:=x2jz (P:=P) (pol:=pol) (show n1<=max n1 n2 by omega) _ (A (max n1 n2+1)) _ _ _ (hm n1 (max n1 n2+1) (by omega)) g2
       have q2:=x2jz (P:=P) (pol:=pol) (show n2<=max n1 n2 by omega) _ (A (max n1 n2+1)) _ _ _ (hm n2 (max n1 n2+1) (by omega)) g4
       have hbd:bindF params.toList 0 args s.sl=x2ig params.toList args s.sl:=x2rt params.toList [] args s.sl (by simpa using hl)
       have q1':ix P pol (max n1 n2) {c.c (A (max n1 n2+1))with u:=m.st.next} assign {sl:=x2ig params.toList args s.sl,st:={m.st with next:=m.st.next+1},fc:=0}=some (.normal,s1.s):=by
        rw[<-hbd];exact q1
       have q2':ix P pol (max n1 n2) {c.c (A (max n1 n2+1))with u:=m.st.next} body s1.s=some (.normal,s2.s):=q2
       simp only
       rw[q1']
       simp only
       rw[q2']
       rfl
     .rw[if_neg hi]at hid
      obtain⟨n,g,g1,g2⟩:=Under.shift hm hu id h0 hid args m m2 e0
      exact⟨n,g,by simp only[hsAt];rw[if_neg hi];exact g1,g2⟩
    obtain⟨n,hn⟩:=hc _ _ _ _ _ _ _ hm' hu' h1
    refine⟨.normal,{s with m:=m',fc:=s.fc+1},h2,n+1,?_⟩
    rw[ix_rng,show ev s.s.sl f=.clo g caps from e]
    simp only
    have hn':x2h0 P pol n ((((c.c (A (n+1))).u,s.s.fc,0),hOf P pol n (c.c (A (n+1))) params assign body s.s.sl)::(c.c (A (n+1))).hs) g (.yld ((c.c (A (n+1))).u,s.s.fc,0)::caps) s.s.st=some (v,m'.st):=hn
    rw[hn']
    rfl
   .cases h'
 | .scope _,R,c,A,X,E,T,s,r,hm,hu,h=>by simp[fxK,fNil]at h
 | .goto _,R,c,A,X,E,T,s,r,hm,hu,h=>by simp[fxK,fNil]at h
 | .label _,R,c,A,X,E,T,s,r,hm,hu,h=>by simp[fxK,fNil]at h
 | .refuse _,R,c,A,X,E,T,s,r,hm,hu,h=>by simp[fxK,fNil]at h
theorem x2ph{sl:Nat->AV}{m:Mem}{fc:Nat}:∀{rs:List ResultVar} {k:List AV->Option R} {r:R},x2mz P sl m rs k=some r->∃l,x2iq P rs {sl:=sl,st:=m.st,fc:=fc}=some l/\k l=some r
 |[],k,r,h=>⟨[],rfl,h⟩
 | .tmp t::rs,k,r,h=>by
   obtain⟨l,h1,h2⟩:=x2ph (fc:=fc) (k:=fun l=>k (sl t::l)) h
   exact⟨sl t::l,by simp only[x2iq,h1],h2⟩
 | .cell a t::rs,k,r,h=>by
   simp only[x2mz]at h
   split at h
   .rename_i g z e1
    rw[Option.bind_eq_some_iff]at h
    obtain⟨v,h1,h2⟩:=h
    obtain⟨l,h3,h4⟩:=x2ph (fc:=fc) (k:=fun l=>k (v::l)) h2
    refine⟨v::l,?_,h4⟩
    unfold sLdP sLd at h1
    split at h1
    .rename_i id ver off e2
     simp only at h1
     split at h1
     .rename_i cs v' fz e3
      split at h1
      .rename_i e4
       have e3':m.st.objs id=some (.row cs v' fz):=e3
       simp only[x2iq,e1,e2,e3',if_pos e4,h1,h3]
      .cases h1
     .cases h1
    .cases h1
   .cases h
theorem fres_ok{rs:List ResultVar}{s:Fs}{v:AV}{m:Mem}(h:x2gi P rs s=some (v,m)):m=s.m/\∃l,x2iq P rs s.s=some l/\((∃x,l=[x]/\v=x)\/((∀x,l≠[x])/\v=.tup l)):=by
 unfold x2gi at h
 obtain⟨l,h1,h2⟩:=x2ph (fc:=s.fc) h
 split at h2
 .rename_i x;cases h2;exact⟨rfl,_,h1,Or.inl ⟨_,rfl,rfl⟩⟩
 .rename_i hn;cases h2;exact⟨rfl,_,h1,Or.inr ⟨hn,rfl⟩⟩
theorem fbody_ok(hc:x2kg P pol call){hs:FHs}{A:Nat->Hs}{f:FuncId}{args:List AV}{m m':Mem}{r:AV}(hm:Mono A)(hu:Under hs A)(h:x2l2 P pol N call hs f args m=some (r,m')):∃n,x2h0 P pol n (A n) f args m.st=some (r,m'.st):=by
 unfold x2l2 at h
 split at h
 .rename_i fn e1
  split at h
  .rename_i body e2
   split at h
   .rename_i e3
    obtain⟨o,s',h1,n,h2⟩:=x2k5 hc body (c:={f:=f,u:=m.next,nt:=fn.ntmps,hs:=hs}) hm hu h
    have h1':o=.normal\/o=.ret:=by
     cases o with
     |exit i=>simp[Kont,eNil]at h1
     |normal=>exact Or.inl rfl
     |ret=>exact Or.inr rfl
    have h3:x2gi P fn.results.toList s'=some (r,m'):=by
     rcases h1' with rfl|rfl<;>exact h1
    obtain⟨rfl,l,h4,h5⟩:=fres_ok h3
    refine⟨n,?_⟩
    unfold x2h0 x2jy
    rw[e1]
    simp only
    rw[e2]
    simp only
    rw[if_pos e3]
    have h2':ix P pol n {f:=f,u:=m.st.next,nt:=fn.ntmps,hs:=A n} body {sl:=x2hd args,st:={m.st with next:=m.st.next+1},fc:=0}=some (o,s'.s):=h2
    rw[h2']
    rcases h1' with rfl|rfl
    .simp only
     rw[h4]
     rcases h5 with ⟨x,rfl,rfl⟩|⟨hn,rfl⟩
     .rfl
     .split
      .rename_i v' e;cases e;exact absurd rfl (hn _)
      .rename_i e;cases e;rfl
      .rename_i e;cases e
    .simp only
     rw[h4]
     rcases h5 with ⟨x,rfl,rfl⟩|⟨hn,rfl⟩
     .rfl
     .split
      .rename_i v' e;cases e;exact absurd rfl (hn _)
      .rename_i e;cases e;rfl
      .rename_i e;cases e
   .cases h
  .cases h
 .cases h
end Go.Ix
