import Derived.Test.YtibmppgmjbpdmaaGreatDoorWg15
import Derived.Test.YtibmppgmjbpdmaaGreatDoorWg1
import Derived.ProofKit
set_option linter.unusedSimpArgs false
set_option linter.unusedVariables false
set_option maxRecDepth 10000
namespace Go.Ix
open Go.Proofs
theorem seal_inj{m1 m2 c:Nat}(h1:m1<998244353)(h2:m2<998244353)(h:(257*m1+c+1) % 998244353=(257*m2+c+1) % 998244353):m1=m2:=by
 obtain⟨z,hz⟩:∃z:Int,257*(m1:Int)=257*(m2:Int)+998244353*z:=⟨((257*m1+c+1) / 998244353:Nat)-((257*m2+c+1) / 998244353:Nat),by omega⟩
 have key:(m1:Int)-m2=998244353*(42726412*z-11*((m1:Int)-m2)):=by omega
 omega
theorem x1hb:∀(l:List UInt8) {m1 m2:Nat},m1<998244353->m2<998244353->x17p m1 l=x17p m2 l->m1=m2
 |[],m1,m2,_,_,h=>h
 |b::l,m1,m2,h1,h2,h=>by
  have:=x1hb l (m1:=(257*m1+b.toNat+1) % 998244353) (m2:=(257*m2+b.toNat+1) % 998244353) (x1qs _ (by omega)) (x1qs _ (by omega)) h
  exact seal_inj h1 h2 this
theorem x1hc(n:Nat)(u v:List UInt8):x17p n (u++v)=x17p (x17p n u) v:=List.foldl_append ..
theorem x1hd{n:Nat}(hn:n<998244353)(u v:List UInt8){b b':UInt8}(h:b≠b'):x17p n (u++b::v)≠x17p n (u++b'::v):=by
 intro e
 rw[x1hc,x1hc]at e
 have hm:=x1h3 hn u
 generalize x17p n u=m at e hm
 have e2:=x1hb v (m1:=(257*m+b.toNat+1) % 998244353) (m2:=(257*m+b'.toNat+1) % 998244353) (x1qs _ (by omega)) (x1qs _ (by omega)) e
 have h1:=b.toNat_lt
 have h2:=b'.toNat_lt
 exact h (UInt8.toNat_inj.1 (by omega))
theorem x1he{a b:Nat}(ha:a<998244353)(hb:b<998244353)(h:decM (a:Int)=decM (b:Int)):a=b:=by
 have h1:=nbr_in (n:=(a:Int)) (d:=9) (by omega) (by omega) (by omega)
 have h2:=nbr_in (n:=(b:Int)) (d:=9) (by omega) (by omega) (by omega)
 rw[h,h2]at h1
 have:=x1q9 h1
 omega
structure RtE (x:Ent):Prop where
 nm:nmL x.by_=true
 tx:x.tx.length<=200
 nl:(10:UInt8)∉x.tx
theorem x1c7:∀{L:List Ent},alE L=0->∀x∈L,RtE x
 |[],_=>λx h=>by cases h
 |y::r,h=>by
  unfold alE at h
  split at h
  .cases h
  .rename_i h1
   split at h
   .cases h
   .rename_i h2
    split at h
    .cases h
    .rename_i h3
     intro x hx
     rcases x1pd.1 hx with rfl|hx
     .exact⟨by simpa using h1,by omega,h3⟩
     .exact x1c7 h x hx
def rowE(n:Nat)(x:Ent):List UInt8:=decM (x15l n x)++32::(x.by_++32::x.tx)
theorem x1hf(n:Nat)(x:Ent):entL n x=rowE n x++[10]:=by unfold entL rowE;simp
theorem nm_no{l:List UInt8}(h:nmL l=true){c:UInt8}(hc:c=10\/c=32):c∉l:=by
 have key:∀(k:Nat) (l:List UInt8),x18i k l=true->c∉l:=by
  intro k l
  induction l generalizing k with
  |nil=>simp
  |cons x l ih=>
   intro h
   unfold x18i at h
   rw[x1p4]at h
   intro hm
   rcases x1pd.1 hm with rfl|hm
   .have h1:=h.1
    rcases hc with rfl|rfl<;>(unfold chOK at h1;cases hk:decide (0<k)<;>rw[hk]at h1<;>exact absurd h1 (by decide))
   .exact ih (k+1) h.2 hm
 unfold nmL nmOK at h
 simp only[x1p4]at h
 exact key 0 _ h.2
theorem dec_no(n:Nat)(hn:n<998244353){c:UInt8}(hc:c=10\/c=32):c∉decM (n:Int):=by
 have key:∀u,u<10 ^ 20->c∉digF 20 u:=λu hu h=>by
  have hD:=x1c2 20 u (by omega) hu
  have:=x1p5.mp hD.all _ h
  rcases hc with rfl|rfl<;>exact absurd this (by decide)
 unfold decM
 split
 .omega
 .exact key _ (by omega)
theorem x1hg{a b t:List UInt8}(ha:(32:UInt8)∉a)(hb:(32:UInt8)∉b):cutV (a++32::(b++32::t))=(a,b++32::t,true)/\entX (a++32::(b++32::t))=⟨b,t⟩:=by
 have h1:=x1af (b++32::t) ha
 refine⟨h1,?_⟩
 unfold entX
 rw[h1]
 simp only
 rw[x1af t hb]
theorem x1c8{n:Nat}{a b t:List UInt8}(ha:(32:UInt8)∉a)(hb:(32:UInt8)∉b):okX n (a++32::(b++32::t))=(nmL b&&decide (t.length<=200)&&decide (a=decM (x15l n ⟨b,t⟩))):=by
 obtain⟨h1,h2⟩:=x1hg (t:=t) ha hb
 unfold okX
 rw[h2,h1]
 simp only
 rw[x1af t hb]
 simp
theorem row_ok{n:Nat}(hn:n<998244353){x:Ent}(h:RtE x):okX n (rowE n x)=true/\entX (rowE n x)=x:=by
 have ha:=dec_no _ (x173 hn x) (.inr rfl:(32:UInt8)=10\/(32:UInt8)=32)
 have hb:=nm_no h.nm (.inr rfl:(32:UInt8)=10\/(32:UInt8)=32)
 refine⟨?_,(x1hg ha hb).2⟩
 unfold rowE
 rw[x1c8 ha hb,h.nm,x1pm h.tx,x1pm rfl];rfl
theorem row_no{n:Nat}(hn:n<998244353){x:Ent}(h:RtE x):(10:UInt8)∉rowE n x:=by
 have ha:=dec_no _ (x173 hn x) (.inl rfl:(10:UInt8)=10\/(10:UInt8)=32)
 have hb:=nm_no h.nm (.inl rfl:(10:UInt8)=10\/(10:UInt8)=32)
 unfold rowE
 intro hm
 rcases x1qh.1 hm with hm|hm
 .exact ha hm
 .rcases x1pd.1 hm with hm|hm
  .exact absurd hm (by decide)
  .rcases x1qh.1 hm with hm|hm
   .exact hb hm
   .rcases x1pd.1 hm with hm|hm
    .exact absurd hm (by decide)
    .exact h.nl hm
def x15u:Nat->List Ent->List (List UInt8)
 |_,[]=>[]
 |n,x::r=>rowE n x::x15u (x15l n x) r
theorem x1ag:∀(L:List Ent) (n:Nat),x155 n L=(x15u n L).flatMap λl=>l++[10]
 |[],n=>rfl
 |x::r,n=>by rw[x155,x15u,x1ps,x1hf,x1ag r]
theorem x1c9:∀(L:List Ent) (n:Nat),n<998244353->(∀x∈L,RtE x)->∀l∈x15u n L,(10:UInt8)∉l
 |[],n,_,_=>λl h=>by cases h
 |x::r,n,hn,h=>by
  intro l hl
  rw[x15u]at hl
  rcases x1pd.1 hl with rfl|hl
  .exact row_no hn (h x (by simp))
  .exact x1c9 r _ (x173 hn x) (λy hy=>h y (x1p7 _ hy)) l hl
theorem x1ca:∀(R:List (List UInt8)) (k:List UInt8),(∀l∈R,(10:UInt8)∉l)->x15w ((R.flatMap λl=>l++[10])++k)=(R.map λl=>l++[10])++x15w k
 |[],k,_=>rfl
 |l::R,k,h=>by
  rw[x1ps,x1qi,x1qi,x1rz,x1e0 _ (h l (by simp)),x1ca R k λx hx=>h x (x1p7 _ hx)]
  rfl
theorem x1cb:∀(L:List Ent) (n:Nat) (O:List Ent) (t:Nat) (k:List (List UInt8)),n<998244353->(∀x∈L,RtE x)->O.length+L.length<=40 ->
 goR (n,O,t) (((x15u n L).map λl=>l++[10])++k)=goR (x19u n L,O++L,t+(x155 n L).length) k
 |[],n,O,t,k,_,_,_=>by simp[x15u,x155,x19u]
 |x::r,n,O,t,k,hn,h,hl=>by
  obtain⟨h1,h2⟩:=row_ok hn (h x (by simp))
  have he:endL (rowE n x++[10])=true:=by simp[endL]
  have hne:¬O.length=40:=by simp at hl;omega
  have hst:x164 (n,O,t) (rowE n x++[10])=some (x15l n x,O++[x],t+(entL n x).length):=by
   unfold x164
   rw[he,List.dropLast_concat,h1,h2,x1q2 hne,x1hf]
   rfl
  rw[x15u,x1pi,x1q4,goR,hst]
  simp only
  rw[x1cb r (x15l n x) (O++[x]) _ k (x173 hn x) (λy hy=>h y (x1p7 _ hy)) (by rw[x1pn];simp at hl ⊢;omega)]
  rw[x155,x1pn,x1qi,x1qg]
  rfl
theorem rec_jour{L:List Ent}(h:x16z L=0):recM (x155 1 L)=(x19u 1 L,L,(x155 1 L).length):=by
 unfold x16z at h
 split at h
 .cases h
 .rename_i hl
  have hr:=x1c7 h
  have:=x1cb L 1 [] 0 [] (by omega) hr (by simp;omega)
  unfold recM
  rw[show x155 1 L=((x15u 1 L).flatMap λl=>l++[10])++[] by rw[x1qy,<-x1ag],x1ca _ _ (x1c9 L 1 (by omega) hr)]
  rw[show x15w []=[]from rfl,show q0R=(1,[],0)from rfl,this]
  rw[x1qy,<-x1ag]
  simp[goR]
theorem x1ea:∀(R:List (List UInt8)) (at_:Nat),at_<=(R.flatMap λl=>l++[10]).length->∃(w:Nat) (p:List UInt8),w<=R.length/\(R.flatMap λl=>l++[10]).take at_=((R.take w).flatMap λl=>l++[10])++p /\
 at_=((R.take w).flatMap λl=>l++[10]).length+p.length/\((w=R.length/\p=[])\/∃(h:w<R.length),p.length<=(R[w]).length/\p=(R[w]).take p.length)
 |[],at_,h=>by
  simp at h
  subst h
  exact⟨0,[],x1p6 _,rfl,rfl,.inl ⟨rfl,rfl⟩⟩
 |r::R,at_,h=>by
  rw[x1ps,x1pn]at h
  by_cases c:at_<=r.length
  .refine⟨0,r.take at_,x1qx _,?_,?_,.inr ⟨by simp,?_,?_⟩⟩
   .rw[x1ps,x1qi,x1sh c]
    rfl
   .simp[x1q6];try omega
   .simp[x1q6];try omega
   .simp[x1q6];try rw[Nat.min_eq_left c]
  .have hl:(r++[10]).length=r.length+1:=by simp
   obtain⟨w,p,h1,h2,h3,h4⟩:=x1ea R (at_-(r.length+1)) (by omega)
   refine⟨w+1,p,by simp;omega,?_,?_,?_⟩
   .rw[x1ps,x1r2,x1ps,x1qi (r++[10]),<-h2,<-hl]
    rw[<-x1t0 (l₁:=r++[10])]
    congr 1
    omega
   .rw[x1r2,x1ps,x1pn,hl]
    clear h4 h2
    generalize ((R.take w).flatMap λl=>l++[10]).length=z at h3 ⊢
    omega
   .rcases h4 with ⟨e1,e2⟩|⟨e1,e2,e3⟩
    .exact .inl ⟨by simp[e1],e2⟩
    .exact .inr ⟨by simp;exact e1,by simpa using e2,by simpa using e3⟩
theorem x1cc:∀(L:List Ent) (n:Nat),(x15u n L).length=L.length
 |[],_=>rfl
 |x::r,n=>by rw[x15u,x1ph,x1ph,x1cc r]
theorem x1cd:∀(L:List Ent) (n w:Nat),(x15u n L).take w=x15u n (L.take w)
 |[],n,w=>by simp[x15u]
 |x::r,n,0=>by simp[x15u]
 |x::r,n,w+1=>by rw[x15u,x1r2,x1r2,x15u,x1cd r]
theorem x1hh:∀(L:List Ent) (n w:Nat) (h:w<L.length),(x15u n L)[w]?=some (rowE (x19u n (L.take w)) L[w])
 |x::r,n,0,h=>by simp[x15u,x19u]
 |x::r,n,w+1,h=>by
  have ih:=x1hh r (x15l n x) w (by simpa using h)
  rw[x15u]
  simp only[x1qo,x1r2,List.getElem_cons_succ]
  rw[ih]
  rfl
theorem go_part(q:StR)(p:List UInt8)(h:(10:UInt8)∉p):goR q (x15w p)=q:=by
 by_cases c:p=[]
 .subst c;rfl
 .rw[x1h1 c h,goR]
  have he:endL p=false:=by
   unfold endL
   apply x1q2
   intro e
   exact h (List.mem_of_getLast? e)
  have:x164 q p=none:=by unfold x164;rw[he];rfl
  rw[this]
theorem x1eb:∀(R:List (List UInt8)),(∀l∈R,(10:UInt8)∉l)->(R.flatMap λl=>l++[10]).count 10=R.length
 |[],_=>rfl
 |r::R,h=>by
  rw[x1ps,List.count_append,List.count_append,List.count_eq_zero.2 (h r (by simp)),x1eb R λx hx=>h x (x1p7 _ hx)]
  simp;omega
theorem x1ce:∀(R:List (List UInt8)) (k:List UInt8),(∀l∈R,(10:UInt8)∉l)->cutM 10 ((R.flatMap λl=>l++[10])++k)=R++cutM 10 k
 |[],k,_=>rfl
 |l::R,k,h=>by
  rw[x1ps,x1qi,x1qi,x1rz,x1c3 _ (h l (by simp)),x1ce R k λx hx=>h x (x1p7 _ hx)]
  rfl
theorem rec_cut{L:List Ent}(h:x16z L=0){at_:Nat}(ha:at_<=(x155 1 L).length):∃w,w<=L.length/\((x155 1 L).take at_).count 10=w/\(recM ((x155 1 L).take at_)).2.1=L.take w/\(recM ((x155 1 L).take at_)).2.2<=at_ /\
 ∀K,(∀l∈x15u 1 L,l.length<=K)->∀x∈cutM 10 ((x155 1 L).take at_),x.length<=K:=by
 unfold x16z at h
 split at h
 .cases h
 rename_i hl
 have hr:=x1c7 h
 have hno:=x1c9 L 1 (by omega) hr
 rw[x1ag]at ha ⊢
 obtain⟨w,p,h1,h2,h3,h4⟩:=x1ea (x15u 1 L) at_ ha
 rw[x1cc]at h1
 have hp:(10:UInt8)∉p:=by
  rcases h4 with ⟨_,rfl⟩|⟨e1,_,e3⟩
  .simp
  .intro hm
   rw[e3]at hm
   exact hno _ (x1qb e1) (x1r1 hm)
 have hno2:∀l∈(x15u 1 L).take w,(10:UInt8)∉l:=λl hm=>hno l (x1r1 hm)
 have hgo:=x1cb (L.take w) 1 [] 0 (x15w p) (by omega) (λx hx=>hr x (x1r1 hx)) (by simp;omega)
 rw[h2]
 have hbd:∀K,(∀l∈x15u 1 L,l.length<=K)->∀x∈cutM 10 ((((x15u 1 L).take w).flatMap λl=>l++[10])++p),x.length<=K:=by
  intro K hK x hx
  rw[x1ce _ _ hno2,x1dx hp]at hx
  rcases x1qh.1 hx with hx|hx
  .exact hK x (x1r1 hx)
  .simp at hx
   subst hx
   rcases h4 with ⟨_,rfl⟩|⟨e1,e2,_⟩
   .exact x1qx _
   .exact x1q1 e2 (hK _ (x1qb e1))
 refine⟨w,h1,?_,?_,?_,hbd⟩
 .rw[List.count_append,x1eb _ hno2,List.count_eq_zero.2 hp,x1q6,x1cc];omega
 all_goals
  unfold recM
  rw[x1ca _ _ hno2,x1cd,show q0R=(1,[],0)from rfl,hgo,go_part _ _ hp]
 .simp
 .rw[h3,x1cd,<-x1ag]
  simp
theorem row_bad{n:Nat}(hn:n<998244353){x:Ent}(h:RtE x){u v:List UInt8}{b b':UInt8}(hrow:rowE n x=u++b::v)(hb:b≠b')(hb1:b≠32)(hb2:b'≠32):okX n (u++b'::v)=false:=by
 have ha:=dec_no _ (x173 hn x) (.inr rfl:(32:UInt8)=10\/(32:UInt8)=32)
 have hbn:=nm_no h.nm (.inr rfl:(32:UInt8)=10\/(32:UInt8)=32)
 unfold rowE at hrow
 rcases List.append_eq_append_iff.1 hrow with ⟨a',e1,e2⟩|⟨c',e1,e2⟩
 ·
  cases a' with
  |nil=>
   simp at e2
   exact absurd e2.1.symm hb1
  |cons z a'=>
   rw[x1q4]at e2
   obtain⟨hz,e3⟩:=List.cons.inj e2
   subst hz
   rcases List.append_eq_append_iff.1 e3 with ⟨a2,f1,f2⟩|⟨c2,f1,f2⟩
   .cases a2 with
    |nil=>
     simp at f2
     exact absurd f2.1.symm hb1
    |cons y a2=>
     rw[x1q4]at f2
     obtain⟨hy,f3⟩:=List.cons.inj f2
     subst hy
     have hnew:u++b'::v=decM (x15l n x)++32::(x.by_++32::(a2++b'::v)):=by
      rw[e1,f1];simp
     rw[hnew,x1c8 ha hbn]
     have:¬decM ((x15l n x:Nat):Int)=decM ((x15l n ⟨x.by_,a2++b'::v⟩:Nat):Int):=λe=>by
      have e3:=x1he (x173 hn _) (x173 hn _) e
      unfold x15l entB at e3
      rw[f3]at e3
      have:=x1hd hn (x.by_++[10]++a2) (v++[10]) hb
      apply this
      simpa using e3
     rw[x1q2 this,x1rx]
   ·
    have hcs:c2=[]\/∃c3,c2=b::c3/\v=c3++32::x.tx:=by
     cases c2 with
     |nil=>exact .inl rfl
     |cons y c3=>
      rw[x1q4]at f2
      obtain⟨hy,f3⟩:=List.cons.inj f2
      subst hy
      exact .inr ⟨c3,rfl,f3⟩
    rcases hcs with rfl|⟨c3,rfl,rfl⟩
    .simp at f2
     exact absurd f2.1 hb1
    have hnew:u++b'::(c3++32::x.tx)=decM (x15l n x)++32::((a'++b'::c3)++32::x.tx):=by
     rw[e1];simp
    have hb32:(32:UInt8)∉a'++b'::c3:=by
     intro hm
     rcases x1qh.1 hm with hm|hm
     .exact hbn (by rw[f1];exact x1qv _ hm)
     .rcases x1pd.1 hm with hm|hm
      .exact hb2 hm.symm
      .exact hbn (by rw[f1];exact x1s2 _ (x1p7 _ hm))
    rw[hnew,x1c8 ha hb32]
    have:¬decM ((x15l n x:Nat):Int)=decM ((x15l n ⟨a'++b'::c3,x.tx⟩:Nat):Int):=λe=>by
     have e3:=x1he (x173 hn _) (x173 hn _) e
     unfold x15l entB at e3
     rw[f1]at e3
     have:=x1hd hn a' (c3++[10]++x.tx++[10]) hb
     apply this
     simpa using e3
    rw[x1q2 this,x1rx]
 ·
  have hcs:c'=[]\/∃c3,c'=b::c3/\v=c3++32::(x.by_++32::x.tx):=by
   cases c' with
   |nil=>exact .inl rfl
   |cons y c3=>
    rw[x1q4]at e2
    obtain⟨hy,e3⟩:=List.cons.inj e2
    subst hy
    exact .inr ⟨c3,rfl,e3⟩
  rcases hcs with rfl|⟨c3,rfl,rfl⟩
  .simp at e2
   exact absurd e2.1 hb1
  have hnew:u++b'::(c3++32::(x.by_++32::x.tx))=(u++b'::c3)++32::(x.by_++32::x.tx):=by simp
  have hb32:(32:UInt8)∉u++b'::c3:=by
   intro hm
   rcases x1qh.1 hm with hm|hm
   .exact ha (by rw[e1];exact x1qv _ hm)
   .rcases x1pd.1 hm with hm|hm
    .exact hb2 hm.symm
    .exact ha (by rw[e1];exact x1s2 _ (x1p7 _ hm))
  rw[hnew,x1c8 hb32 hbn]
  have:¬u++b'::c3=decM ((x15l n ⟨x.by_,x.tx⟩:Nat):Int):=λe=>by
   have e3:u++b'::c3=u++b::c3:=e.trans e1
   have:=List.append_cancel_left e3
   simp at this
   exact hb this.symm
  rw[x1q2 this,x1rx]
theorem x1je{L:List Ent}(h:x16z L=0){at_:Nat}{b b':UInt8}{k:List UInt8}(hd:(x155 1 L).drop at_=b::k)(hb:b≠b')(h1:b≠10)(h2:b'≠10)(h3:b≠32)(h4:b'≠32) :
 (recM ((x155 1 L).take at_++b'::k)).2.1=L.take (((x155 1 L).take at_).count 10) /\
 ∀K,(∀l∈x15u 1 L,l.length<=K)->∀x∈cutM 10 ((x155 1 L).take at_++b'::k),x.length<=K:=by
 have hE:=h
 unfold x16z at h
 split at h
 .cases h
 rename_i hl
 have hr:=x1c7 h
 have hno:=x1c9 L 1 (by omega) hr
 have hat:at_<(x155 1 L).length:=by
  rcases x1pq at_ (x155 1 L).length with hh|hh
  .exact hh
  .rw[x1r9 hh]at hd;cases hd
 rw[x1ag]at hd hat ⊢
 obtain⟨R,hR⟩:∃R,R=x15u 1 L:=⟨_,rfl⟩
 rw[<-hR]at hd hat hno ⊢
 obtain⟨w,p,p1,p2,p3,p4⟩:=x1ea R at_ (by omega)
 have hsplit:∀w,(R.flatMap λl=>l++[10])=((R.take w).flatMap λl=>l++[10])++((R.drop w).flatMap λl=>l++[10]):=λw=>by
  rw[<-List.flatMap_append,x1ra]
 have hdrop:∀z:List UInt8,(R.flatMap λl=>l++[10])=((R.take w).flatMap λl=>l++[10])++z->z=p++b::k:=λz hz=>by
  have e:=x1ra at_ (R.flatMap λl=>l++[10])
  rw[p2,hd,hz,x1qi]at e
  exact(List.append_cancel_left e).symm
 have hz:=hdrop _ (hsplit w)
 rcases p4 with ⟨e1,e2⟩|⟨e1,e2,e3⟩
 .rw[e1,x1r9 (x1p6 _)]at hz
  simp at hz
 .rw[x1sg e1,x1ps,x1qi]at hz
  have hlt:p.length<(R[w]).length:=by
   rcases x1pq p.length (R[w]).length with hh|hh
   .exact hh
   .exfalso
    have:p=R[w]:=by rw[e3];exact x1pf hh
    rw[<-this]at hz
    have:=List.append_cancel_left hz
    simp at this
    exact h1 this.1.symm
  obtain⟨v,hv⟩:∃v,R[w]=p++b::v/\k=v++([10]++((R.drop (w+1)).flatMap λl=>l++[10])):=by
   have e4:=x1ra p.length R[w]
   rw[<-e3]at e4
   cases hc:(R[w]).drop p.length with
   |nil=>
    have:=x1rb.1 hc
    omega
   |cons y v=>
    rw[hc]at e4
    rw[<-e4,x1qi]at hz
    have:=List.append_cancel_left hz
    simp only[x1q4,x1rl]at this
    obtain⟨rfl,hk⟩:=this
    exact⟨v,e4.symm,by rw[<-hk];simp⟩
  obtain⟨hv,hk⟩:=hv
  have hwL:w<L.length:=by rw[hR,x1cc]at e1;exact e1
  have hget:=x1hh L 1 w hwL
  rw[<-hR,x1pr e1]at hget
  have hrow:=x1q9 hget
  have hmem:L[w]∈L:=x1qb hwL
  have hbad:=row_bad (sealL_lt (by omega:1<998244353) (L.take w)) (hr _ hmem) (u:=p) (v:=v) (b:=b) (b':=b') (by rw[<-hrow];exact hv) hb h3 h4
  have hnor:(10:UInt8)∉p++b::v:=by rw[<-hv];exact hno _ (x1qb e1)
  have hnew:(10:UInt8)∉p++b'::v:=by
   intro hm
   rcases x1qh.1 hm with hm|hm
   .exact hnor (x1qv _ hm)
   .rcases x1pd.1 hm with hm|hm
    .exact h2 hm.symm
    .exact hnor (x1s2 _ (x1p7 _ hm))
  have hp:(10:UInt8)∉p:=λhm=>hnor (x1qv _ hm)
  have hno2:∀l∈R.take w,(10:UInt8)∉l:=λl hm=>hno l (x1r1 hm)
  have hcount:((R.flatMap λl=>l++[10]).take at_).count 10=w:=by
   rw[p2,List.count_append,x1eb _ hno2,List.count_eq_zero.2 hp,x1q6]
   omega
  have hgo:=x1cb (L.take w) 1 [] 0 (x15w ((p++b'::v)++([10]++((R.drop (w+1)).flatMap λl=>l++[10])))) (by omega) (λx hx=>hr x (x1r1 hx)) (by simp;omega)
  rw[hcount,p2,hk]
  have e5:((R.take w).flatMap λl=>l++[10])++p++b'::(v++([10]++((R.drop (w+1)).flatMap λl=>l++[10])))=((R.take w).flatMap λl=>l++[10])++((p++b'::v)++([10]++((R.drop (w+1)).flatMap λl=>l++[10]))):=by simp
  rw[e5]
  refine⟨?_,λK hK x hx=>?_⟩
  rotate_left
  .rw[x1ce _ _ hno2,x1rz,x1c3 _ hnew]at hx
   rcases x1qh.1 hx with hx|hx
   .exact hK x (x1r1 hx)
   .rcases x1pd.1 hx with rfl|hx
    .have:=hK _ (x1qb e1)
     rw[hv]at this
     simp at this ⊢
     exact this
    .have e6:=x1ce (R.drop (w+1)) [] λl hm=>hno l (x1rw hm)
     rw[x1qy]at e6
     rw[e6]at hx
     rcases x1qh.1 hx with hx|hx
     .exact hK x (x1rw hx)
     .simp[cutM]at hx
      subst hx
      exact x1qx _
  unfold recM
  rw[x1ca _ _ hno2,hR,x1cd,show q0R=(1,[],0)from rfl,<-hR,hgo,x1rz,x1e0 _ hnew,goR]
  have hst:∀q:StR,q.1=x19u 1 (L.take w)->x164 q ((p++b'::v)++[10])=none:=λq hq=>by
   unfold x164
   rw[List.dropLast_concat,hq,hbad,x1rx,x1sk]
   rfl
  rw[hst _ rfl]
  simp
theorem e_awake10:((x14z 30 [] x1l [] mem0).map (λp=>p.1))=some (B true):=by kernel_rfl
theorem w_awake10(m:Mem):x14q (x14z 30) x1l [] m=some (B true,m):=by
 have h:=e_awake10
 rw[x1p3]at h
 obtain⟨⟨r,m'⟩,h1,rfl⟩:=h
 exact call0 rfl h1 rfl
theorem w_Brief(d:Nat){a:AV}{L:List Ent}(ha:Sl Ent.c a L)(hl:L.length<=9223372036854775807)(m:Mem):x14q (x14z (d+1)) x1m [a] m=some (B (x198 L&&(decide (L.length<=20)||(decide (40<L.length)&&decide (L.length<=42)))),m):=by
 refine Ans.call0 (m:=m) ?_ (by simp[ha.still]) rfl
 unfold Ans
 rw[xxd]
 unfold x8h x76 x98
 exact⟨_,l_Brief _ _ _ ha L 0 NN _ _ rfl (by rw[x197];omega) hl⟩
theorem brief_br{L:List Ent}(h:(x198 L&&(decide (L.length<=20)||(decide (40<L.length)&&decide (L.length<=42))))=true):(∀x∈L,Br10 x)/\L.length<=42:=by
 simp only[x1p4,x1pw,x1qf]at h
 refine⟨λx hx=>?_,by omega⟩
 have:=x1p5.1 h.1 x hx
 simp only[x1p4,x1qf]at this
 exact⟨by omega,by omega⟩
end Go.Ix
