import Derived.Test.YtacloojepepcfaaGreatDoorWg16
import Derived.Test.YtacloojepepcfaaGreatDoorWg15
set_option linter.unusedSimpArgs false
set_option linter.unusedVariables false
namespace Go.Ix
open Go.Proofs
theorem x12d{m:Mem}{id:Id}{l:List Int}(h:m.get id=some (.row (l.flatMap intE) 0 false))(k:Nat):Go.Ix.frz m.get (k+2) (srI id l.length)=some (.slit (l.flatMap intE) l.length false):=by
 have hl:=xrk l
 have:=xsn (objs:=m.get) (id:=id) (cs:=l.flatMap intE) (ver:=0) (off:=0) (n:=l.length) (z:=1) (k:=k) (f:=false) (x:=true) h (by omega) (by
  rw[x180,x182 (by omega)];exact xr9 xua l)
 rw[x180,x182 (by omega)]at this
 exact this
theorem x12e{n:Nat}{l:List Edge}(hed:∀e∈l,EdgeIn n e/\e.fr≠e.to){S:Nat->Bool}(hS:∀e∈l,0<e.wt->S e.fr.toNat=S e.to.toNat){a b:Nat}(h:Reach (λa=>nearU l (a:Nat)) a b):S a=S b:=by
 induction h with
 |refl=>rfl
 |step h1 h2 ih=>
  rw[ih]
  obtain⟨e,he,hw,h⟩:=mem_nearU.mp h2
  have:=hS e he hw
  rcases h with ⟨c1,c2⟩|⟨c0,c1,c2⟩
  .rw[c1,c2,x18g,x18g]at this;exact this
  .rw[c1,c2,x18g,x18g]at this;exact this.symm
theorem x14l{n:Nat}{l:List Edge}(hn:n<=200)(hed:∀e∈l,EdgeIn n e/\e.fr≠e.to){a b:Nat}(ha:a<n)(hb:b<n)(h:at0 (xqb n l) a=at0 (xqb n l) b){S:Nat->Bool}(hS:∀e∈l,0<e.wt->S e.fr.toNat=S e.to.toNat):S a=S b:=by
 have R:=xx9 hn (xxa hed)
 obtain⟨rep,hrep⟩:=R.rep
 have h1:=R.lab a ha ha
 have h2:=(R.lt a ha).2
 obtain⟨c,hc⟩:∃c:Nat,at0 (numM n (λa=>nearU l (a:Nat))).1 a=c:=⟨(at0 (numM n (λa=>nearU l (a:Nat))).1 a).toNat,by omega⟩
 obtain⟨r1,r2,r3,r4,r5⟩:=hrep c (by omega)
 have ra:=(r4 a ha hc).2
 have rb:=(r4 b hb (by rw[<-hc];exact h.symm)).2
 rw[<-x12e hed hS ra,<-x12e hed hS rb]
noncomputable def muN(P:Nat->Int)(v:Nat):Nat:=Classical.choose (x12c (P:=λw=>P w=P v) v rfl)
theorem xuf(P:Nat->Int)(v:Nat):P (muN P v)=P v/\∀w,P w=P v->muN P v<=w:=by
 have h:=Classical.choose_spec (x12c (P:=λw=>P w=P v) v rfl)
 exact⟨h.1,λw hw=>Nat.le_of_not_lt λhlt=>h.2 w hlt hw⟩
theorem xv4(P:Nat->Int)(v:Nat):muN P v<=v:=(xuf P v).2 v rfl
theorem xxb{P:Nat->Int}{a b:Nat}(h:P a=P b):muN P a=muN P b:=by
 have h1:=xuf P a
 have h2:=xuf P b
 have:=h1.2 (muN P b) (by rw[h2.1,h])
 have:=h2.2 (muN P a) (by rw[h1.1,h])
 omega
theorem x12f(P:Nat->Int)(v:Nat):muN P (muN P v)=muN P v:=xxb (xuf P v).1
theorem muN_iff{P:Nat->Int}{a b:Nat}:muN P a=muN P b↔P a=P b:=⟨λh=>by rw[<-(xuf P a).1,h,(xuf P b).1],xxb⟩
def xr5(s:List Int×Bool)(e:Edge):List Int×Bool:=
 if 0<e.wt/\at0 s.1 e.fr.toNat≠at0 s.1 e.to.toNat then
  ((s.1.set e.fr.toNat (minI (at0 s.1 e.fr.toNat) (at0 s.1 e.to.toNat))).set e.to.toNat (minI (at0 s.1 e.fr.toNat) (at0 s.1 e.to.toNat)),true)else s
def xqc(l:List Edge)(s:List Int×Bool):List Int×Bool:=l.foldl xr5 s
def xsc(l:List Edge):Nat->List Int->List Int
 |0,ls=>ls
 |k+1,ls=>if(xqc l (ls,false)).2 then xsc l k (xqc l (ls,false)).1 else(xqc l (ls,false)).1
structure LInv (n:Nat) (P:Nat->Int) (ls:List Int):Prop where
 len:ls.length=n
 ok:∀v,v<n->(muN P v:Int)<=at0 ls v/\at0 ls v<=v/\P (at0 ls v).toNat=P v
def Rt(P:Nat->Int)(ls:List Int)(v:Nat):Prop:=at0 ls v=(muN P v:Nat)
noncomputable instance (P:Nat->Int)(ls:List Int)(v:Nat):Decidable (Rt P ls v):=Int.instDecidableEq ..
theorem edgeP_ok{n:Nat}{P:Nat->Int}{s:List Int×Bool}{e:Edge}(h:LInv n P s.1)(he:EdgeIn n e)(hne:e.fr≠e.to)(hP:0<e.wt->P e.fr.toNat=P e.to.toNat) :
 LInv n P (xr5 s e).1/\(∀v,v<n->Rt P s.1 v->Rt P (xr5 s e).1 v)/\(0<e.wt->Rt P s.1 e.fr.toNat\/Rt P s.1 e.to.toNat->Rt P (xr5 s e).1 e.fr.toNat/\Rt P (xr5 s e).1 e.to.toNat) /\
  ((xr5 s e).2=false->s.2=false/\(xr5 s e).1=s.1/\(0<e.wt->at0 s.1 e.fr.toNat=at0 s.1 e.to.toNat)):=by
 obtain⟨f0,f1,t0,t1,-⟩:=he
 obtain⟨a,ha⟩:∃a,a=e.fr.toNat:=⟨_,rfl⟩
 obtain⟨b,hb⟩:∃b,b=e.to.toNat:=⟨_,rfl⟩
 have han:a<n:=by omega
 have hbn:b<n:=by omega
 have hab:a≠b:=by omega
 have oa:=h.ok a han
 have ob:=h.ok b hbn
 unfold xr5
 rw[<-ha,<-hb]at hP ⊢
 by_cases c:0<e.wt/\at0 s.1 a≠at0 s.1 b
 .rw[x17u c]
  have hmu:=xxb (hP c.1)
  have hPP:=hP c.1
  have hm:minI (at0 s.1 a) (at0 s.1 b)=at0 s.1 a/\at0 s.1 a<=at0 s.1 b\/minI (at0 s.1 a) (at0 s.1 b)=at0 s.1 b/\at0 s.1 b<=at0 s.1 a:=by
   unfold minI
   split
   .right;exact⟨rfl,by omega⟩
   .left;exact⟨rfl,by omega⟩
  obtain⟨m,hmm⟩:∃m,m=minI (at0 s.1 a) (at0 s.1 b):=⟨_,rfl⟩
  rw[<-hmm]at hm ⊢
  have hget:∀v,at0 ((s.1.set a m).set b m) v=if v=b then m else if v=a then m else at0 s.1 v:=λv=>by
   rw[xtn (by rw[x19t,h.len];exact hbn),xtn (by rw[h.len];exact han)]
  have hmP:P m.toNat=P a/\(muN P a:Int)<=m/\m<=at0 s.1 a/\m<=at0 s.1 b:=by
   rcases hm with ⟨e1,e2⟩|⟨e1,e2⟩
   .rw[e1];exact⟨oa.2.2,oa.1,by omega,e2⟩
   .rw[e1];exact⟨by rw[ob.2.2,hPP],by rw[hmu];exact ob.1,e2,by omega⟩
  refine⟨⟨by simpa using h.len,λv hv=>?_⟩,λv hv hr=>?_,λhw hr=>?_,λhf=>by simp at hf⟩
  .simp only
   rw[hget]
   by_cases e1:v=b
   .rw[x17u e1,e1];exact⟨by rw[<-hmu];exact hmP.2.1,by omega,by rw[hmP.1,hPP]⟩
   .rw[x17t e1]
    by_cases e2:v=a
    .rw[x17u e2,e2];exact⟨hmP.2.1,by omega,hmP.1⟩
    .rw[x17t e2];exact h.ok v hv
  .unfold Rt at hr ⊢
   simp only
   rw[hget]
   by_cases e1:v=b
   .rw[x17u e1,e1];rw[e1]at hr;rw[hmu]at hmP;omega
   .rw[x17t e1]
    by_cases e2:v=a
    .rw[x17u e2,e2];rw[e2]at hr;omega
    .rw[x17t e2];exact hr
  .unfold Rt at hr ⊢
   simp only
   rw[hget,hget,x17t hab,x17u rfl,x17u rfl]
   rcases hr with hr|hr<;>constructor<;>omega
 .rw[x17t c]
  refine⟨h,λ_ _ hr=>hr,λhw hr=>?_,λhf=>⟨hf,rfl,λhw=>?_⟩⟩
  .have e1:at0 s.1 a=at0 s.1 b:=Classical.byContradiction λx=>c ⟨hw,x⟩
   have hmu:=xxb (hP hw)
   unfold Rt at hr ⊢
   rcases hr with hr|hr<;>constructor<;>omega
  .exact Classical.byContradiction λx=>c ⟨hw,x⟩
theorem x12g{n:Nat}{P:Nat->Int}:∀(l:List Edge) (s:List Int×Bool),LInv n P s.1->(∀e∈l,EdgeIn n e/\e.fr≠e.to)->(∀e∈l,0<e.wt->P e.fr.toNat=P e.to.toNat) ->
 LInv n P (xqc l s).1/\(∀v,v<n->Rt P s.1 v->Rt P (xqc l s).1 v)/\(∀e∈l,0<e.wt->Rt P s.1 e.fr.toNat\/Rt P s.1 e.to.toNat->Rt P (xqc l s).1 e.fr.toNat/\Rt P (xqc l s).1 e.to.toNat) /\
  ((xqc l s).2=false->s.2=false/\(xqc l s).1=s.1/\∀e∈l,0<e.wt->at0 s.1 e.fr.toNat=at0 s.1 e.to.toNat)
 |[],s,h,_,_=>⟨h,λ_ _ h=>h,λe he=>by simp at he,λhf=>⟨hf,rfl,λe he=>by simp at he⟩⟩
 |e::l,s,h,hed,hP=>by
  obtain⟨h1,h2⟩:=hed e (x18a ..)
  obtain⟨a1,a2,a3,a4⟩:=edgeP_ok h h1 h2 (hP e (x18a ..))
  obtain⟨b1,b2,b3,b4⟩:=x12g l (xr5 s e) a1 (λx hx=>hed x (x183 _ hx)) (λx hx=>hP x (x183 _ hx))
  have ep:xqc (e::l) s=xqc l (xr5 s e):=rfl
  rw[ep]
  refine⟨b1,λv hv hr=>b2 v hv (a2 v hv hr),λx hx hw hr=>?_,λhf=>?_⟩
  .obtain⟨⟨f0,f1,t0,t1,-⟩,-⟩:=hed x hx
   rcases x186.mp hx with rfl|hx
   .obtain⟨q1,q2⟩:=a3 hw hr
    exact⟨b2 _ (by omega) q1,b2 _ (by omega) q2⟩
   .refine b3 x hx hw ?_
    rcases hr with hr|hr
    .exact Or.inl (a2 _ (by omega) hr)
    .exact Or.inr (a2 _ (by omega) hr)
  .obtain⟨c1,c2,c3⟩:=b4 hf
   obtain⟨d1,d2,d3⟩:=a4 c1
   rw[d2]at c2 c3
   refine⟨d1,c2,λx hx hw=>?_⟩
   rcases x186.mp hx with rfl|hx
   .exact d3 hw
   .exact c3 x hx hw
noncomputable def xsq(n:Nat)(P:Nat->Int)(ls:List Int):Int:=sumN n λv=>if Rt P ls v then 0 else 1
theorem x12h{n:Nat}{l:List Edge}(hn:n<=200)(hed:∀e∈l,EdgeIn n e/\e.fr≠e.to):∀(k:Nat) (ls:List Int),LInv n (at0 (xqb n l)) ls->xsq n (at0 (xqb n l)) ls<=k ->
 (xsc l k ls).length=n/\∀v,v<n->at0 (xsc l k ls) v=(muN (at0 (xqb n l)) v:Nat)
 |0,ls,h,hw=>by
  refine⟨h.len,λv hv=>?_⟩
  apply Classical.byContradiction
  intro hc
  have h1:=sumN_lt (n:=n) (g:=λ_=>0) (h:=λv=>if Rt (at0 (xqb n l)) ls v then 0 else 1) (λk _=>by split<;>omega) hv (by
   rw[x17t (show ¬Rt (at0 (xqb n l)) ls v from hc)]
   omega)
  rw[x11y (λ_ _=>rfl)]at h1
  unfold xsq at hw
  omega
 |k+1,ls,h,hw=>by
  obtain⟨P,hPe⟩:∃P,P=at0 (xqb n l):=⟨_,rfl⟩
  have hPP:∀e∈l,0<e.wt->P e.fr.toNat=P e.to.toNat:=λe he hw=>by rw[hPe];exact x14k hn hed he hw
  have ih:=x12h hn hed k
  rw[<-hPe]at h hw ih ⊢
  obtain⟨a1,a2,a3,a4⟩:=x12g l (ls,false) h hed hPP
  simp only[xsc]
  have reach:∀{v:Nat} (hv:v<n) (S:Nat->Bool),(∀e∈l,0<e.wt->S e.fr.toNat=S e.to.toNat)->S (muN P v)=S v:=λ{v} hv S hS=>by
   have h1:=(xuf P v).1
   have h2:=xv4 P v
   rw[hPe]at h1 h2 ⊢
   exact x14l hn hed (by omega) hv h1 hS
  by_cases c:(xqc l (ls,false)).2=true
  .rw[x17u c]
   refine ih _ a1 ?_
   by_cases hz:xsq n P ls<=k
   .have:xsq n P (xqc l (ls,false)).1<=xsq n P ls:=xz0 λv hv=>by
     by_cases c1:Rt P ls v
     .rw[x17u c1,x17u (a2 v hv c1)];omega
     .rw[x17t c1];split<;>omega
    omega
   ·
    have hex:∃e∈l,0<e.wt/\¬(Rt P ls e.fr.toNat↔Rt P ls e.to.toNat):=by
     apply Classical.byContradiction
     intro hno
     have hall:∀v,v<n->Rt P ls v:=λv hv=>by
      have hS:=reach hv (λw=>decide (Rt P ls w)) (λe he hw=>by
       have:(Rt P ls e.fr.toNat↔Rt P ls e.to.toNat):=Classical.byContradiction λx=>hno ⟨e,he,hw,x⟩
       simp only[decide_eq_decide]
       exact this)
      simp only[decide_eq_decide]at hS
      refine hS.mp ?_
      have hm:=xv4 P v
      have:=h.ok (muN P v) (by omega)
      have h2:=x12f P v
      unfold Rt
      rw[h2]at this ⊢
      omega
     have:xsq n P ls=0:=x11y λv hv=>x17u (hall v hv)
     omega
    obtain⟨e,he,hew,hx⟩:=hex
    obtain⟨⟨f0,f1,t0,t1,-⟩,-⟩:=hed e he
    have hboth:(Rt P ls e.fr.toNat\/Rt P ls e.to.toNat):=Classical.byContradiction λx=>hx ⟨λy=>absurd (Or.inl y) x,λy=>absurd (Or.inr y) x⟩
    obtain⟨r1,r2⟩:=a3 e he hew hboth
    have hone:∃w,w<n/\¬Rt P ls w/\Rt P (xqc l (ls,false)).1 w:=by
     by_cases y:Rt P ls e.fr.toNat
     .exact⟨e.to.toNat,by omega,λz=>hx ⟨λ_=>z,λ_=>y⟩,r2⟩
     .exact⟨e.fr.toNat,by omega,y,r1⟩
    obtain⟨w,w1,w2,w3⟩:=hone
    have:xsq n P (xqc l (ls,false)).1<xsq n P ls:=sumN_lt (λv hv=>by
     by_cases c1:Rt P ls v
     .rw[x17u c1,x17u (a2 v hv c1)];omega
     .rw[x17t c1];split<;>omega) w1 (by rw[x17u w3,x17t w2];omega)
    omega
  .rw[x17t c]
   obtain⟨-,d2,d3⟩:=a4 (by simpa using c)
   have d2:(xqc l (ls,false)).1=ls:=d2
   have d3:∀e∈l,0<e.wt->at0 ls e.fr.toNat=at0 ls e.to.toNat:=d3
   rw[d2]
   refine⟨h.len,λv hv=>?_⟩
   have hS:=reach hv (λw=>decide (at0 ls w=at0 ls v)) (λe he hw=>by rw[d3 e he hw])
   simp only[decide_eq_decide]at hS
   have h1:=hS.mpr trivial
   have hm:=xv4 P v
   have h2:=h.ok (muN P v) (by omega)
   have h3:=h.ok v hv
   omega
def Can(n:Nat)(q:Nat->Int):Prop:=∀i,i<n->0<=q i/\((∀k,k<i->q k≠q i)->∀c,0<=c->c<q i->∃k,k<i/\q k=c)
theorem can_one{n:Nat}{q r:Nat->Int}(hq:Can n q)(hr:Can n r)(h:∀i j,i<n->j<n->(q i=q j↔r i=r j)):∀i,i<n->q i=r i:=by
 intro i
 induction i using Nat.strongRecOn with
 |_ i ih=>
  intro hi
  obtain⟨q0,q1⟩:=hq i hi
  obtain⟨r0,r1⟩:=hr i hi
  by_cases c:∃k,k<i/\q k=q i
  .obtain⟨k,hk,e⟩:=c
   have:=(h k i (by omega) hi).mp e
   rw[<-e,ih k hk (by omega),this]
  .have fq:∀k,k<i->q k≠q i:=λk hk e=>c ⟨k,hk,e⟩
   have fr:∀k,k<i->r k≠r i:=λk hk e=>c ⟨k,hk,(h k i (by omega) hi).mpr e⟩
   rcases Int.lt_trichotomy (q i) (r i)with g|g|g
   .obtain⟨k,hk,e⟩:=r1 fr (q i) q0 g
    rw[<-ih k hk (by omega)]at e
    exact absurd e (fq k hk)
   .exact g
   .obtain⟨k,hk,e⟩:=q1 fq (r i) r0 g
    rw[ih k hk (by omega)]at e
    exact absurd e (fr k hk)
theorem num_can{n:Nat}{nb:Nat->List Int}(hn:n<=200)(hS:Sym n nb):Can n (at0 (numM n nb).1):=by
 have R:=xx9 hn hS
 obtain⟨rep,hrep⟩:=R.rep
 intro i hi
 have h1:=R.lab i hi hi
 have h2:=(R.lt i hi).2
 refine⟨h1,λhf c c0 c1=>?_⟩
 obtain⟨x,hx⟩:∃x:Nat,at0 (numM n nb).1 i=x:=⟨(at0 (numM n nb).1 i).toNat,by omega⟩
 obtain⟨y,rfl⟩:∃y:Nat,c=y:=⟨c.toNat,by omega⟩
 obtain⟨r1,r2,r3,r4,r5⟩:=hrep x (by omega)
 obtain⟨s1,s2,s3,s4,s5⟩:=hrep y (by omega)
 have hle:=(r4 i hi hx).1
 have:=r5 y (by omega)
 exact⟨rep y,by omega,s3⟩
def nmS(ls:List Int)(s:List Int×Int)(i:Nat):List Int×Int:=
 if at0 ls i=i then(s.1.set i s.2,s.2+1)else(s.1.set i (at0 s.1 (at0 ls i).toNat),s.2)
def nmM(ls:List Int):List Int×Int:=(List.range ls.length).foldl (nmS ls) (List.replicate ls.length 0,0)
structure NInv (mu:Nat->Nat) (n k:Nat) (s:List Int×Int):Prop where
 len:s.1.length=n
 g0:0<=s.2
 gk:s.2<=k
 lt:∀v,v<k->0<=at0 s.1 v/\at0 s.1 v<s.2
 fix:∀v,v<k->at0 s.1 v=at0 s.1 (mu v)
 inj:∀a b,a<k->b<k->mu a=a->mu b=b->at0 s.1 a=at0 s.1 b->a=b
 all:∀c:Int,0<=c->c<s.2->∃a,a<k/\at0 s.1 a=c
 low:∀a,a<k->mu a=a->∀c:Int,0<=c->c<at0 s.1 a->∃b,b<a/\at0 s.1 b=c
theorem nb_inv{mu:Nat->Nat}(hle:∀v,mu v<=v)(hid:∀v,mu (mu v)=mu v){ls:List Int}{n:Nat}(hl:ls.length=n)(hls:∀v,v<n->at0 ls v=(mu v:Nat)):NInv mu n n (nmM ls):=by
 have key:∀k,k<=n->NInv mu n k ((List.range k).foldl (nmS ls) (List.replicate n 0,0)):=by
  intro k
  induction k with
  |zero=>intro _;exact⟨by simp,by simp,by simp,λv h=>by omega,λv h=>by omega,λa b h=>by omega,λc h0 h1=>by simp only[x1be,x1au]at h1;omega,λa h=>by omega⟩
  |succ k ih=>
   intro hk
   have h:=ih (by omega)
   rw[x1ah,x1as]
   obtain⟨s,hs⟩:∃s,s=(List.range k).foldl (nmS ls) (List.replicate n 0,0):=⟨_,rfl⟩
   rw[<-hs]at h ⊢
   simp only[x1a9,x1au]
   have hkn:k<s.1.length:=by rw[h.len];omega
   have hg0:=h.g0
   have hgk:=h.gk
   unfold nmS
   rw[hls k (by omega)]
   by_cases c:mu k=k
   .rw[x17u (by rw[c])]
    have hset:∀v,at0 (s.1.set k s.2) v=if v=k then s.2 else at0 s.1 v:=λv=>xtn hkn
    have old:∀v,v<k->at0 (s.1.set k s.2) v=at0 s.1 v:=λv hv=>by rw[hset,x17t (by omega)]
    have new:at0 (s.1.set k s.2) k=s.2:=by rw[hset,x17u rfl]
    refine⟨by simpa using h.len,by simp only;omega,by simp only;omega,λv hv=>?_,λv hv=>?_,λa b ha hb ma mb e=>?_,λx x0 x1=>?_,λa ha ma x x0 x1=>?_⟩
    .simp only
     by_cases e:v=k
     .rw[e,new];omega
     .rw[old v (by omega)];have:=h.lt v (by omega);omega
    .simp only
     by_cases e:v=k
     .rw[e,c]
     .have:=hle v
      rw[old v (by omega),old (mu v) (by omega)];exact h.fix v (by omega)
    .simp only at e
     by_cases e1:a=k<;>by_cases e2:b=k
     .omega
     .rw[e1,new,old b (by omega)]at e;have:=h.lt b (by omega);omega
     .rw[e2,new,old a (by omega)]at e;have:=h.lt a (by omega);omega
     .rw[old a (by omega),old b (by omega)]at e;exact h.inj a b (by omega) (by omega) ma mb e
    .simp only at x1 ⊢
     by_cases e:x=s.2
     .exact⟨k,by omega,by rw[new,e]⟩
     .obtain⟨a,a1,a2⟩:=h.all x x0 (by omega)
      exact⟨a,by omega,by rw[old a a1];exact a2⟩
    .simp only at x1 ⊢
     by_cases e:a=k
     .rw[e,new]at x1
      obtain⟨b,b1,b2⟩:=h.all x x0 x1
      exact⟨b,by omega,by rw[old b b1];exact b2⟩
     .rw[old a (by omega)]at x1
      obtain⟨b,b1,b2⟩:=h.low a (by omega) ma x x0 x1
      exact⟨b,b1,by rw[old b (by omega)];exact b2⟩
   .have hmk:=hle k
    rw[x17t (by omega),x18g]
    have hset:∀v,at0 (s.1.set k (at0 s.1 (mu k))) v=if v=k then at0 s.1 (mu k)else at0 s.1 v:=λv=>xtn hkn
    have old:∀v,v<k->at0 (s.1.set k (at0 s.1 (mu k))) v=at0 s.1 v:=λv hv=>by rw[hset,x17t (by omega)]
    have new:at0 (s.1.set k (at0 s.1 (mu k))) k=at0 s.1 (mu k):=by rw[hset,x17u rfl]
    refine⟨by simpa using h.len,hg0,by simp only;omega,λv hv=>?_,λv hv=>?_,λa b ha hb ma mb e=>?_,λx x0 x1=>?_,λa ha ma x x0 x1=>?_⟩
    .simp only
     by_cases e:v=k
     .rw[e,new];exact h.lt _ (by omega)
     .rw[old v (by omega)];exact h.lt v (by omega)
    .simp only
     by_cases e:v=k
     .rw[e,new,old (mu k) (by omega)]
     .have:=hle v
      rw[old v (by omega),old (mu v) (by omega)];exact h.fix v (by omega)
    .simp only at e
     by_cases e1:a=k
     .exact absurd (e1▸ma) c
     .by_cases e2:b=k
      .exact absurd (e2▸mb) c
      .rw[old a (by omega),old b (by omega)]at e;exact h.inj a b (by omega) (by omega) ma mb e
    .simp only at x1 ⊢
     obtain⟨a,a1,a2⟩:=h.all x x0 x1
     exact⟨a,by omega,by rw[old a a1];exact a2⟩
    .simp only at x1 ⊢
     by_cases e:a=k
     .exact absurd (e▸ma) c
     .rw[old a (by omega)]at x1
      obtain⟨b,b1,b2⟩:=h.low a (by omega) ma x x0 x1
      exact⟨b,b1,by rw[old b (by omega)];exact b2⟩
 have:=key n (x17z _)
 unfold nmM
 rw[hl]
 exact this
theorem nb_can{mu:Nat->Nat}(hle:∀v,mu v<=v)(hid:∀v,mu (mu v)=mu v){ls:List Int}{n:Nat}(hl:ls.length=n)(hls:∀v,v<n->at0 ls v=(mu v:Nat)) :
 (nmM ls).1.length=n/\Can n (at0 (nmM ls).1)/\∀i j,i<n->j<n->(at0 (nmM ls).1 i=at0 (nmM ls).1 j↔mu i=mu j):=by
 have h:=nb_inv hle hid hl hls
 refine⟨h.len,λi hi=>⟨(h.lt i hi).1,λhf c c0 c1=>?_⟩,λi j hi hj=>⟨λe=>?_,λe=>?_⟩⟩
 .have hm:mu i=i:=by
   apply Classical.byContradiction
   intro hne
   have:=hle i
   exact hf (mu i) (by omega) (h.fix i hi).symm
  exact h.low i hi hm c c0 c1
 .have a:=hle i
  have b:=hle j
  exact h.inj (mu i) (mu j) (by omega) (by omega) (hid i) (hid j) (by rw[<-h.fix i hi,<-h.fix j hj,e])
 .rw[h.fix i hi,h.fix j hj,e]
theorem num_eq{n:Nat}{q r:List Int}(hq:q.length=n)(hr:r.length=n)(cq:Can n (at0 q))(cr:Can n (at0 r))(h:∀i j,i<n->j<n->(at0 q i=at0 q j↔at0 r i=at0 r j)):q=r:=by
 have:=can_one cq cr h
 refine x1bt (by omega) λi h1 h2=>?_
 have:=this i (by omega)
 rwa[xs9 h1,xs9 h2]at this
theorem parts_eq{n:Nat}{l:List Edge}(hn:n<=200)(hed:∀e∈l,EdgeIn n e/\e.fr≠e.to){ls:List Int}(hl:ls.length=n)(hg:∀v,v<n->at0 ls v=v) :
 (nmM (xsc l n ls)).1=xqb n l/\(xsc l n ls).length=n/\∀v,v<n->0<=at0 (xsc l n ls) v/\at0 (xsc l n ls) v<=v:=by
 obtain⟨P,hPe⟩:∃P,P=at0 (xqb n l):=⟨_,rfl⟩
 have hI:LInv n P ls:=⟨hl,λv hv=>by rw[hg v hv,x18g];have:=xv4 P v;exact⟨by omega,by omega,rfl⟩⟩
 have hw:xsq n P ls<=n:=by
  have h1:xsq n P ls<=sumN n λ_=>1:=xz0 λv _=>by split<;>omega
  have h2:∀n,sumN n (λ_=>1)=n:=by
   intro n
   induction n with
   |zero=>rfl
   |succ n ih=>simp only[sumN,ih];omega
  rw[h2]at h1
  exact h1
 obtain⟨a1,a2⟩:=x12h hn hed n _ (hPe▸hI) (hPe▸hw)
 rw[<-hPe]at a2
 obtain⟨b1,b2,b3⟩:=nb_can (mu:=muN P) (xv4 P) (x12f P) a1 a2
 have hc:=num_can hn (xxa hed)
 refine⟨num_eq b1 (xx9 hn (xxa hed)).l b2 hc λi j hi hj=>?_,a1,λv hv=>?_⟩
 .rw[b3 i j hi hj,muN_iff,hPe]
 .have:=xv4 P v
  rw[a2 v hv]
  omega
end Go.Ix
