import Derived.Test.YtpeakdjfagbpcaaGreatWg10
set_option linter.unusedSimpArgs false
set_option linter.unusedVariables false
namespace Go.Ix
theorem x17x:∀(ps:List Nat) (ds:List Bool),ps.Nodup->(∀w∈ps,w<ds.length/\dn ds w=false)->ps.length<=cntF ds
 |[],_,_,_=>x1hn _
 |w::ps,ds,h,hd=>by
  obtain⟨h1,h2⟩:=x1gg.mp h
  obtain⟨h3,h4⟩:=hd w (x1f7 ..)
  have:=x17x ps (ds.set w true) h2 (λx hx=>by
   obtain⟨h5,h6⟩:=hd x (x1f6 _ hx)
   exact⟨by simpa using h5,by rw[dn_set h3,x1ey (by rintro rfl;exact h1 hx)];exact h6⟩)
  have:=x11i h3 h4
  simp only[x1fi];omega
theorem x149{n:Nat}{ps:List Nat}(h:ps.Nodup)(hp:∀w∈ps,w<n):ps.length<=n:=by
 have:=x17x ps (List.replicate n false) h (λw hw=>⟨by simpa using hp w hw,by rw[dn_lt (by simpa using hp w hw)];simp⟩)
 rwa[x140]at this
structure FlowOK (n:Nat) (l:List Edge) (fl tu ex:List Int):Prop where
 nn:n<=200
 ll:l.length<=600
 ed:∀e∈l,EdgeIn n e/\e.fr≠e.to
 fll:fl.length=l.length
 tul:tu.length=n
 exl:ex.length=n
 cap:∀k,k<l.length->-(edgeAt l k).wt<=at0 fl k/\at0 fl k<=(edgeAt l k).wt
 cs:∀k,k<l.length->(at0 fl k<(edgeAt l k).wt->exI tu (edgeAt l k)<=0)/\(-(edgeAt l k).wt<at0 fl k->0<=exI tu (edgeAt l k))
 net:∀v,v<n->at0 ex v=netF v (l.zip fl)
theorem xun{n:Nat}{l:List Edge}(hed:∀e∈l,EdgeIn n e/\e.fr≠e.to){k:Nat}(hk:k<l.length):EdgeIn n (edgeAt l k)/\(edgeAt l k).fr≠(edgeAt l k).to:=by
 rw[xtw hk];exact hed _ (x1fg hk)
theorem x101{n:Nat}{l:List Edge}(hed:∀e∈l,EdgeIn n e/\e.fr≠e.to)(fl:List Int){a i:Int}(hi:i∈adjI l a):∃k:Nat,k<l.length/\i=k /\
 (((edgeAt l k).to=a/\(edgeAt l k).fr≠a/\arcAt l fl a i=⟨k,(edgeAt l k).fr,-1,(edgeAt l k).wt+at0 fl k,(edgeAt l k).jump⟩) \/
  ((edgeAt l k).fr=a/\(edgeAt l k).to≠a/\arcAt l fl a i=⟨k,(edgeAt l k).to,1,(edgeAt l k).wt-at0 fl k,-(edgeAt l k).jump⟩)):=by
 obtain⟨h0,h1,h2⟩:=x13z hi
 obtain⟨k,rfl⟩:∃k:Nat,i=k:=⟨i.toNat,by omega⟩
 rw[x1f1]at h2
 have hk:k<l.length:=by omega
 obtain⟨he,hne⟩:=xun hed hk
 refine⟨k,hk,rfl,?_⟩
 unfold arcAt
 simp only[x1f1]
 by_cases c:(edgeAt l k).to=a
 .left
  rw[x1ez c]
  exact⟨c,by omega,rfl⟩
 .right
  rw[x1ey c]
  exact⟨by rcases h2 with h|h;exact h;exact absurd h c,c,rfl⟩
theorem x11o{l:List Edge}{k:Nat}{a:Int}(hk:k<l.length)(h:(edgeAt l k).fr=a\/(edgeAt l k).to=a):(k:Int)∈adjI l a:=by
 unfold adjI
 rw[x1fj]
 exact⟨k,x1fr.mpr ⟨x1fn.mpr hk,by simpa using h⟩,rfl⟩
theorem FlowOK.red{n:Nat}{l:List Edge}{fl tu ex:List Int}(h:FlowOK n l fl tu ex):RedOK n l fl tu:=by
 refine⟨λa i ha hi=>?_,λa i ha hi=>?_⟩
 .obtain⟨k,hk,rfl,hc⟩:=x101 h.ed fl hi
  obtain⟨⟨f0,f1,t0,t1,-⟩,hne⟩:=xun h.ed hk
  rcases hc with ⟨c1,c2,c3⟩|⟨c1,c2,c3⟩<;>rw[c3]<;>exact⟨by assumption,by assumption,c2⟩
 .obtain⟨hi,hr⟩:=hi
  obtain⟨k,hk,rfl,hc⟩:=x101 h.ed fl hi
  obtain⟨s1,s2⟩:=h.cs k hk
  rcases hc with ⟨c1,c2,c3⟩|⟨c1,c2,c3⟩
  .rw[c3]at hr ⊢
   simp only at hr ⊢
   have:=s2 (by omega)
   unfold exI at this
   rw[c1,x1f1]at this
   omega
  .rw[c3]at hr ⊢
   simp only at hr ⊢
   have:=s1 (by omega)
   unfold exI at this
   rw[c1,x1f1]at this
   omega
theorem path_ok{n:Nat}{l:List Edge}{fl tu ex:List Int}(h:FlowOK n l fl tu ex){fr:Nat}{t:Tour}{rk:Nat->Nat}(W:WaysOK n l fl tu fr t rk):∀(r v:Nat),v<n->rk v<r->at0 t.len v<farM ->
 ∃ps,PathI n t.bef fr (v:Nat) ps/\(∀w∈ps,w<n/\w≠fr/\at0 t.len w<=at0 t.len v/\rk w<=rk v)/\ps.Nodup:=by
 intro r
 induction r with
 |zero=>intro v _ hh;omega
 |succ r ih=>
  intro v hv hr hl
  by_cases e:v=fr
  .exact⟨[],by rw[e];rfl,λw hw=>by simp at hw,x1jf⟩
  .obtain⟨b,b1,b2,b3,b4,i,b5,b6,b7,b8⟩:=W.pre v hv e hl
   obtain⟨ps,p1,p2,p3⟩:=ih b b1 (by omega) b2
   have hred:=h.red.red b i b1 b5
   rw[b7,x1f1]at hred
   refine⟨v::ps,⟨by omega,rfl,hv,by rw[b3];exact p1⟩,λw hw=>?_,x1gg.mpr ⟨λhw=>?_,p3⟩⟩
   .rcases x1fe.mp hw with rfl|hw
    .exact⟨hv,e,x1ft _,x1f3 _⟩
    .obtain⟨q1,q2,q3,q4⟩:=p2 w hw
     exact⟨q1,q2,by omega,by omega⟩
   .have:=(p2 v hw).2.2.2
    omega
theorem xyw{n:Nat}{l:List Edge}{fl tu ex:List Int}(h:FlowOK n l fl tu ex){fr:Nat}{t:Tour}{rk:Nat->Nat}(W:WaysOK n l fl tu fr t rk){w:Nat}(hw:w<n)(hf:w≠fr)(hl:at0 t.len w<farM) :
 ∃b k:Nat,b<n/\(at0 t.len b<farM/\at0 t.len b<=at0 t.len w)/\at0 t.bef w=(b:Nat)/\rk b<rk w/\k<l.length/\(lastAt t w).edge=(k:Nat)/\0<(lastAt t w).room /\
  (((edgeAt l k).to=(b:Nat)/\(edgeAt l k).fr=(w:Nat)/\(lastAt t w).sign=-1/\(lastAt t w).room=(edgeAt l k).wt+at0 fl k/\at0 t.len w=at0 t.len b+(edgeAt l k).jump+at0 tu b-at0 tu w) \/
   ((edgeAt l k).fr=(b:Nat)/\(edgeAt l k).to=(w:Nat)/\(lastAt t w).sign=1/\(lastAt t w).room=(edgeAt l k).wt-at0 fl k/\at0 t.len w=at0 t.len b-(edgeAt l k).jump+at0 tu b-at0 tu w)):=by
 obtain⟨b,b1,b2,b3,b4,i,⟨b5,b6⟩,b7,b8,b9⟩:=W.pre w hw hf hl
 have hred:=h.red.red b i b1 ⟨b5,b6⟩
 rw[b8,x1f1]at hred
 obtain⟨k,hk,rfl,hc⟩:=x101 h.ed fl b5
 refine⟨b,k,b1,⟨b2,by omega⟩,b3,b4,hk,?_,by rw[b7];exact b6,?_⟩
 .rw[b7];rcases hc with ⟨_,_,c⟩|⟨_,_,c⟩<;>rw[c]
 .rw[b7]
  rcases hc with ⟨c1,c2,c⟩|⟨c1,c2,c⟩
  .left
   rw[c]at b8 b9 ⊢
   exact⟨c1,b8,rfl,rfl,by simp only at b9;omega⟩
  .right
   rw[c]at b8 b9 ⊢
   exact⟨c1,b8,rfl,rfl,by simp only at b9;omega⟩
theorem x1bm{n:Nat}{l:List Edge}{fl tu ex:List Int}(h:FlowOK n l fl tu ex){fr:Nat}{t:Tour}{rk:Nat->Nat}(W:WaysOK n l fl tu fr t rk){w v:Nat}(hw:w<n)(hf:w≠fr)(hl:at0 t.len w<farM)(hv:v<n)(hvf:v≠fr)(hvl:at0 t.len v<farM)(hwv:w≠v) :
 (lastAt t w).edge≠(lastAt t v).edge:=by
 obtain⟨b,k,b1,b2,b3,b4,b5,b6,b7,b8⟩:=xyw h W hw hf hl
 obtain⟨c,j,c1,c2,c3,c4,c5,c6,c7,c8⟩:=xyw h W hv hvf hvl
 rw[b6,c6]
 intro e
 have e:k=j:=by omega
 subst e
 have:b=v/\c=w:=by
  rcases b8 with ⟨d1,d2,-⟩|⟨d1,d2,-⟩<;>rcases c8 with ⟨e1,e2,-⟩|⟨e1,e2,-⟩<;>omega
 obtain⟨rfl,rfl⟩:=this
 omega
theorem amt_le(t:Tour):∀(ps:List Nat) (a:Int),amtM t ps a<=a/\∀w∈ps,amtM t ps a<=(lastAt t w).room
 |[],a=>⟨x1ft _,λw hw=>by simp at hw⟩
 |v::ps,a=>by
  have e:amtM t (v::ps) a=amtM t ps (minI a (lastAt t v).room):=rfl
  obtain⟨h1,h2⟩:=amt_le t ps (minI a (lastAt t v).room)
  rw[e]
  have h3:minI a (lastAt t v).room<=a:=by unfold minI;split<;>omega
  have h4:minI a (lastAt t v).room<=(lastAt t v).room:=x11l
  refine⟨by omega,λw hw=>?_⟩
  rcases x1fe.mp hw with rfl|hw
  .omega
  .exact h2 w hw
theorem amt_pos(t:Tour):∀(ps:List Nat) (a:Int),0<a->(∀w∈ps,0<(lastAt t w).room)->0<amtM t ps a
 |[],a,h,_=>h
 |v::ps,a,h,hp=>by
  have e:amtM t (v::ps) a=amtM t ps (minI a (lastAt t v).room):=rfl
  rw[e]
  refine amt_pos t ps _ ?_ (λw hw=>hp w (x1f6 _ hw))
  have:=hp v (x1f7 ..)
  unfold minI;split<;>omega
theorem x17y(t:Tour)(amt:Int):∀(ps:List Nat) (fl:List Int),(flowP t amt ps fl).length=fl.length
 |[],_=>rfl
 |v::ps,fl=>by
  have e:flowP t amt (v::ps) fl=flowP t amt ps (fl.set (lastAt t v).edge.toNat (at0 fl (lastAt t v).edge.toNat+(lastAt t v).sign*amt)):=rfl
  rw[e,x17y t amt ps];simp
theorem x17z(t:Tour)(amt:Int):∀(ps:List Nat) (fl:List Int),(∀w∈ps,(lastAt t w).edge.toNat<fl.length)->ps.Pairwise (λv w=>(lastAt t v).edge.toNat≠(lastAt t w).edge.toNat)->∀k,
 (∀w∈ps,(lastAt t w).edge.toNat=k->at0 (flowP t amt ps fl) k=at0 fl k+(lastAt t w).sign*amt)/\((∀w∈ps,(lastAt t w).edge.toNat≠k)->at0 (flowP t amt ps fl) k=at0 fl k)
 |[],fl,_,_,k=>⟨λw hw=>by simp at hw,λ_=>rfl⟩
 |v::ps,fl,h,hp,k=>by
  have e:flowP t amt (v::ps) fl=flowP t amt ps (fl.set (lastAt t v).edge.toNat (at0 fl (lastAt t v).edge.toNat+(lastAt t v).sign*amt)):=rfl
  obtain⟨h1,h2⟩:=x1gn.mp hp
  have hv:=h v (x1f7 ..)
  obtain⟨i1,i2⟩:=x17z t amt ps (fl.set (lastAt t v).edge.toNat (at0 fl (lastAt t v).edge.toNat+(lastAt t v).sign*amt)) (λw hw=>by simpa using h w (x1f6 _ hw)) h2 k
  rw[e]
  rw[xt0 hv]at i1 i2
  refine⟨λw hw hk=>?_,λhk=>?_⟩
  .rcases x1fe.mp hw with rfl|hw
   .rw[i2 (λx hx=>by rw[<-hk];exact λy=>h1 x hx y.symm),x1ez hk.symm,hk]
   .rw[i1 w hw hk,x1ey (by rw[<-hk];exact λy=>h1 w hw y.symm)]
  .rw[i2 (λw hw=>hk w (x1f6 _ hw)),x1ey (λy=>hk v (x1f7 ..) y.symm)]
def ind(p:Prop)[Decidable p]:Int:=if p then 1 else 0
theorem x14a(v:Nat):∀(l:List Edge) (fl:List Int) (k:Nat) (x:Int),k<l.length->fl.length=l.length ->
 netF v (l.zip (fl.set k x))=netF v (l.zip fl)+(x-at0 fl k)*(ind ((edgeAt l k).to.toNat=v)-ind ((edgeAt l k).fr.toNat=v))
 |e::l,f::fl,0,x,hk,hl=>by
  simp only[x1ht,x1i8,netF,ind,show edgeAt (e::l) 0=e from rfl,show at0 (f::fl) 0=f from rfl]
  split<;>split<;>omega
 |e::l,f::fl,k+1,x,hk,hl=>by
  have:=x14a v l fl k x (by simpa using hk) (by simpa using hl)
  simp only[x1i4,x1i8,netF,show edgeAt (e::l) (k+1)=edgeAt l k from rfl,show at0 (f::fl) (k+1)=at0 fl k from rfl,this]
  omega
 |[],_,k,x,hk,_=>by simp at hk
 |_::_,[],k,x,_,hl=>by simp at hl
theorem x180{n:Nat}{l:List Edge}{fr:Nat}{t:Tour}(amt:Int)(v:Nat):∀(ps:List Nat) (a:Int) (fl:List Int),fl.length=l.length->PathI n t.bef fr a ps ->
 (∀w∈ps,∃b k:Nat,at0 t.bef w=(b:Nat)/\k<l.length/\(lastAt t w).edge=(k:Nat)/\(((edgeAt l k).to=(b:Nat)/\(edgeAt l k).fr=(w:Nat)/\(lastAt t w).sign=-1)\/((edgeAt l k).fr=(b:Nat)/\(edgeAt l k).to=(w:Nat)/\(lastAt t w).sign=1))) ->
 netF v (l.zip (flowP t amt ps fl))=netF v (l.zip fl)+amt*(ind (a.toNat=v)-ind (fr=v))
 |[],a,fl,_,hp,_=>by
  have hp:a=(fr:Nat):=hp
  subst hp
  simp[flowP]
 |w::ps,a,fl,hl,hp,hA=>by
  obtain⟨h1,rfl,h3,h4⟩:=hp
  obtain⟨b,k,b1,b2,b3,b4⟩:=hA w (x1f7 ..)
  have e:flowP t amt (w::ps) fl=flowP t amt ps (fl.set (lastAt t w).edge.toNat (at0 fl (lastAt t w).edge.toNat+(lastAt t w).sign*amt)):=rfl
  rw[b1]at h4
  have ih:=x180 (n:=n) amt v ps (b:Nat) (fl.set (lastAt t w).edge.toNat (at0 fl (lastAt t w).edge.toNat+(lastAt t w).sign*amt)) (by simpa using hl) h4 (λx hx=>hA x (x1f6 _ hx))
  rw[e,ih,b3,x1f1,x14a v l fl k _ b2 hl]
  rcases b4 with ⟨c1,c2,c3⟩|⟨c1,c2,c3⟩
  .rw[c1,c2,c3,x1f1,x1f1]
   grind
  .rw[c1,c2,c3,x1f1,x1f1]
   grind
theorem xtq{l:List Edge}{fl:List Int}(hl:fl.length=l.length){x:Edge×Int}:x∈l.zip fl↔∃k,k<l.length/\x=(edgeAt l k,at0 fl k):=by
 constructor
 .intro h
  obtain⟨k,hk,rfl⟩:=x1hu.mp h
  have h1:k<l.length:=by simp at hk;omega
  refine⟨k,h1,?_⟩
  rw[List.getElem_zip,xtw h1,xrn (by omega)]
 .rintro⟨k,hk,rfl⟩
  rw[xtw hk,xrn (by omega)]
  have:k<(l.zip fl).length:=by simp;omega
  rw[<-List.getElem_zip (h:=this)]
  exact x1fg this
theorem FlowOK.capz{n:Nat}{l:List Edge}{fl tu ex:List Int}(h:FlowOK n l fl tu ex):Cap (l.zip fl):=by
 intro x hx
 obtain⟨k,hk,rfl⟩:=(xtq h.fll).mp hx
 exact h.cap k hk
theorem xy4{n:Nat}{l:List Edge}{fl:List Int}(hed:∀e∈l,EdgeIn n e/\e.fr≠e.to)(hl:fl.length=l.length):Ends n (l.zip fl):=by
 intro x hx
 obtain⟨k,hk,rfl⟩:=(xtq hl).mp hx
 obtain⟨⟨f0,f1,t0,t1,-⟩,-⟩:=xun hed hk
 simp only
 omega
theorem arc_out{n:Nat}{l:List Edge}{fl:List Int}(hed:∀e∈l,EdgeIn n e/\e.fr≠e.to)(hl:fl.length=l.length){u v:Nat}{c:Int}(h:Arc (l.zip fl) u v c) :
 ∃i,OutA l fl u i/\(arcAt l fl u i).to=(v:Nat)/\(arcAt l fl u i).cost=c:=by
 obtain⟨x,hx,h⟩:=h
 obtain⟨k,hk,rfl⟩:=(xtq hl).mp hx
 obtain⟨⟨f0,f1,t0,t1,-⟩,hne⟩:=xun hed hk
 rcases h with ⟨h1,h2,h3,h4⟩|⟨h1,h2,h3,h4⟩
 .simp only at h1 h2 h3 h4
  have hi:=x11o (a:=(u:Nat)) hk (Or.inl (by omega))
  refine⟨k,?_⟩
  unfold OutA
  have e:arcAt l fl (u:Nat) (k:Nat)=⟨k,(edgeAt l k).to,1,(edgeAt l k).wt-at0 fl k,-(edgeAt l k).jump⟩:=by
   unfold arcAt
   simp only[x1f1]
   rw[x1ey (by omega)]
  rw[e]
  exact⟨⟨hi,by simp only;omega⟩,by simp only;omega,h4.symm⟩
 .simp only at h1 h2 h3 h4
  have hi:=x11o (a:=(u:Nat)) hk (Or.inr (by omega))
  refine⟨k,?_⟩
  unfold OutA
  have e:arcAt l fl (u:Nat) (k:Nat)=⟨k,(edgeAt l k).fr,-1,(edgeAt l k).wt+at0 fl k,(edgeAt l k).jump⟩:=by
   unfold arcAt
   simp only[x1f1]
   rw[x1ez (by omega)]
  rw[e]
  exact⟨⟨hi,by simp only;omega⟩,by simp only;omega,h4.symm⟩
structure Slim (J:Int) (n:Nat) (l:List Edge):Prop where
 j0:0<=J
 j1:J<=20
 nn:n<=12
 ll:l.length<=17
 ed:∀e∈l,EdgeIn n e/\e.fr≠e.to
 jw:∀e∈l,-J<=e.jump/\e.jump<=J/\e.wt<=20
structure TurnB (n:Nat) (tu ex:List Int) (P:Int):Prop where
 b:∀v,v<n->0<=at0 tu v/\at0 tu v<=P
 m:∀v,v<n->at0 ex v<0->at0 tu v=P
theorem way_len{n:Nat}{l:List Edge}{fl tu ex:List Int}(h:FlowOK n l fl tu ex){fr:Nat}{t:Tour}{rk:Nat->Nat}(W:WaysOK n l fl tu fr t rk){J:Int}(hJ:∀e∈l,-J<=e.jump/\e.jump<=J):∀(ps:List Nat) (v:Nat),PathI n t.bef fr (v:Nat) ps->v<n->at0 t.len v<farM ->
 at0 t.len v<=J*ps.length+at0 tu fr-at0 tu v
 |[],v,hp,hv,hl=>by
  have hp:(v:Int)=(fr:Nat):=hp
  have:v=fr:=by omega
  subst this
  rw[W.z];simp
 |w::ps,v,hp,hv,hl=>by
  obtain⟨h1,h2,h3,h4⟩:=hp
  have:v=w:=by omega
  subst this
  obtain⟨b,k,b1,⟨b2,b2'⟩,b3,b4,b5,b6,b7,b8⟩:=xyw h W hv (by omega) hl
  rw[b3]at h4
  have ih:=way_len h W hJ ps b h4 b1 b2
  have hj:=hJ (edgeAt l k) (by rw[xtw b5];exact x1fg b5)
  have e:J*((v::ps).length:Int)=J*(ps.length:Int)+J:=by rw[x1fi,Int.natCast_succ,Int.mul_add];omega
  rw[e]
  rcases b8 with ⟨_,_,_,_,b8⟩|⟨_,_,_,_,b8⟩<;>omega
theorem fin_len{n:Nat}{l:List Edge}{fl tu ex:List Int}(h:FlowOK n l fl tu ex){fr:Nat}{t:Tour}{rk:Nat->Nat}(W:WaysOK n l fl tu fr t rk){J P:Int}(hS:Slim J n l)(hT:∀v,v<n->0<=at0 tu v/\at0 tu v<=P)(hfr:fr<n){v:Nat}(hv:v<n)(hl:at0 t.len v<farM) :
 ∃ps,PathI n t.bef fr (v:Nat) ps/\(∀w∈ps,w<n/\w≠fr/\at0 t.len w<=at0 t.len v/\rk w<=rk v)/\ps.Nodup/\ps.length<=n/\at0 t.len v<=J*12+at0 tu fr-at0 tu v:=by
 obtain⟨ps,p1,p2,p3⟩:=path_ok h W (rk v+1) v hv (by omega) hl
 have hn:=x149 p3 (λw hw=>(p2 w hw).1)
 refine⟨ps,p1,p2,p3,hn,?_⟩
 have h1:=way_len h W (λe he=>⟨(hS.jw e he).1,(hS.jw e he).2.1⟩) ps v p1 hv hl
 have h2:J*(ps.length:Int)<=J*12:=x1kg (by have:=hS.nn;omega) hS.j0
 omega
theorem to_ok{n:Nat}{l:List Edge}{fl tu ex:List Int}(h:FlowOK n l fl tu ex){fr:Nat}{t:Tour}{rk:Nat->Nat}(W:WaysOK n l fl tu fr t rk){J P:Int}(hS:Slim J n l)(hT:∀v,v<n->0<=at0 tu v/\at0 tu v<=P)(hP:P<=1000000)(hfr:fr<n)(hex:0<at0 ex fr) :
 ∃v,v<n/\at0 ex v<0/\at0 t.len v<farM:=by
 have hj0:=hS.j0
 have hj1:=hS.j1
 apply Classical.byContradiction
 intro hno
 have hall:∀v,v<n->at0 t.len v<farM->0<=at0 ex v:=λv hv hl=>by
  apply Classical.byContradiction
  intro hx
  exact hno ⟨v,hv,by omega,hl⟩
 obtain⟨S,hSd⟩:∃S:Nat->Bool,S=λv=>decide (v<n/\at0 t.len v<farM):=⟨_,rfl⟩
 have hSi:∀v,S v=true↔v<n/\at0 t.len v<farM:=λv=>by rw[hSd];simp
 have hcut:=(cut_sum n S (l.zip fl) (xy4 h.ed h.fll) h.capz (by
  intro u v c ha hu
  rw[hSi]at hu ⊢
  obtain⟨hu1,hu2⟩:=hu
  obtain⟨-,hv⟩:=ha.lt (xy4 h.ed h.fll)
  obtain⟨i,h1,h2,h3⟩:=arc_out h.ed h.fll ha
  have h4:=W.cl u hu1 hu2 i h1
  obtain⟨ps,-,-,-,-,h5⟩:=fin_len h W hS hT hfr hu1 hu2
  have h6:=hT fr hfr
  have h7:=hT u hu1
  have h8:=hT v hv
  rw[h2,x1f1]at h4
  have h9:(arcAt l fl u i).cost<=1000:=by
   obtain⟨k,hk,rfl,hc⟩:=x101 h.ed fl h1.1
   obtain⟨⟨_,_,_,_,j0,j1,_⟩,_⟩:=xun h.ed hk
   rcases hc with ⟨_,_,c⟩|⟨_,_,c⟩<;>rw[c]<;>simp only<;>omega
  refine⟨hv,?_⟩
  have:(100000000:Int)<farM:=by decide
  omega)).1
 have hpos:sumN n (λ_=>0)<sumN n (λv=>(if S v then 1 else 0)*netF v (l.zip fl)):=by
  refine sumN_lt (j:=fr) (λv hv=>?_) hfr ?_
  .split
   .rename_i c
    have:=hall v hv ((hSi v).mp c).2
    rw[h.net v hv]at this
    omega
   .omega
  .rw[x1ez ((hSi fr).mpr ⟨hfr,by rw[W.z];decide⟩),<-h.net fr hfr]
   omega
 rw[xyv (λ_ _=>rfl)]at hpos
 omega
def posS(n:Nat)(ex:List Int):Int:=sumN n (λv=>if 0<at0 ex v then at0 ex v else 0)
theorem x102(n:Nat)(ex:List Int):0<=posS n ex:=x1bk λk _=>by split<;>omega
structure PushOK (J:Int) (n:Nat) (l:List Edge) (fl tu ex:List Int) (P:Int) (fr:Nat):Prop where
 ex:∃(to:Nat) (ps:List Nat) (amt:Int),(to:Int)=nearM (waysF n l fl tu fr).len ex (-1) 0 (waysF n l fl tu fr).len/\to<n/\to≠fr/\at0 (waysF n l fl tu fr).len to<farM /\
  PathI n (waysF n l fl tu fr).bef fr (to:Nat) ps/\ArcsIn l.length (waysF n l fl tu fr) ps/\ps.length<=1000/\amt=amtM (waysF n l fl tu fr) ps (minI (at0 ex fr) (-(at0 ex to)))/\0<amt/\amt<=1000000 /\
  FlowOK n l (flowP (waysF n l fl tu fr) amt ps fl) (turnsP tu (waysF n l fl tu fr).len (at0 (waysF n l fl tu fr).len to) n) ((ex.set fr (at0 ex fr-amt)).set to (at0 ex to+amt)) /\
  (∃P',P<=P'/\P'<=P+J*12/\TurnB n (turnsP tu (waysF n l fl tu fr).len (at0 (waysF n l fl tu fr).len to) n) ((ex.set fr (at0 ex fr-amt)).set to (at0 ex to+amt)) P') /\
  posS n ((ex.set fr (at0 ex fr-amt)).set to (at0 ex to+amt))+amt=posS n ex
theorem x1bn{tu len:List Int}{b:Int}{n k:Nat}(h:k<n):at0 (turnsP tu len b n) k=at0 tu k+minI (at0 len k) b:=by
 rw[xrn (by rw[xy3];exact h),x17r h]
theorem push_ok{J:Int}{n:Nat}{l:List Edge}{fl tu ex:List Int}{P:Int}{fr:Nat}(h:FlowOK n l fl tu ex)(hS:Slim J n l)(hT:TurnB n tu ex P)(hP:P<=900000)(hfr:fr<n)(hex:0<at0 ex fr)(hexb:∀v,at0 ex v<=1000000):PushOK J n l fl tu ex P fr:=by
 obtain⟨t,ht⟩:∃t,t=waysF n l fl tu fr:=⟨_,rfl⟩
 obtain⟨rk,W⟩:=x148 h.red hfr h.nn
 rw[<-ht]at W
 have hj0:=hS.j0
 have hj1:=hS.j1
 have hns:=x17p (len:=t.len) (ex:=ex) t.len 0 (-1) rfl (x1hn _) (Or.inl ⟨rfl,λi hi=>by omega⟩)
 rw[show((0:Nat):Int)=0 from rfl]at hns
 obtain⟨T,hT0⟩:∃T,T=nearM t.len ex (-1) 0 t.len:=⟨_,rfl⟩
 rw[<-hT0]at hns
 rcases hns with ⟨h1,h2⟩|⟨h1,h2,h3,h4,h5⟩
 .exfalso
  obtain⟨v,v1,v2,v3⟩:=to_ok h W hS hT.b (by omega) hfr hex
  have:=h2 v (by rw[W.ll];exact v1) v2
  omega
 obtain⟨to,rfl⟩:∃to:Nat,T=to:=⟨T.toNat,by omega⟩
 rw[x1f1]at h2 h3 h4 h5
 rw[W.ll]at h2 h5
 have hne:to≠fr:=by rintro rfl;omega
 obtain⟨ps,p1,p2,p3,p4,p5⟩:=fin_len h W hS hT.b hfr h2 h4
 obtain⟨D,hD⟩:∃D,D=at0 t.len to:=⟨_,rfl⟩
 have hD0:0<=D:=by rw[hD];exact W.nn to h2
 have hDP:D<=J*12:=by have:=hT.m to h2 h3;have:=(hT.b fr hfr).2;omega
 have arcs:∀w∈ps,∃b k:Nat,b<n/\(at0 t.len b<farM/\at0 t.len b<=at0 t.len w)/\at0 t.bef w=(b:Nat)/\rk b<rk w/\k<l.length/\(lastAt t w).edge=(k:Nat)/\0<(lastAt t w).room /\
  (((edgeAt l k).to=(b:Nat)/\(edgeAt l k).fr=(w:Nat)/\(lastAt t w).sign=-1/\(lastAt t w).room=(edgeAt l k).wt+at0 fl k/\at0 t.len w=at0 t.len b+(edgeAt l k).jump+at0 tu b-at0 tu w) \/
   ((edgeAt l k).fr=(b:Nat)/\(edgeAt l k).to=(w:Nat)/\(lastAt t w).sign=1/\(lastAt t w).room=(edgeAt l k).wt-at0 fl k/\at0 t.len w=at0 t.len b-(edgeAt l k).jump+at0 tu b-at0 tu w)):=by
  intro w hw
  obtain⟨q1,q2,q3,q4⟩:=p2 w hw
  exact xyw h W q1 q2 (by omega)
 obtain⟨amt,hamt⟩:∃amt,amt=amtM t ps (minI (at0 ex fr) (-(at0 ex to))):=⟨_,rfl⟩
 have hmf:minI (at0 ex fr) (-(at0 ex to))<=at0 ex fr:=by unfold minI;split<;>omega
 have hmt:minI (at0 ex fr) (-(at0 ex to))<=-(at0 ex to):=x11l
 have hmp:0<minI (at0 ex fr) (-(at0 ex to)):=by unfold minI;split<;>omega
 obtain⟨al1,al2⟩:=amt_le t ps (minI (at0 ex fr) (-(at0 ex to)))
 rw[<-hamt]at al1 al2
 have hap:0<amt:=by
  rw[hamt]
  refine amt_pos t ps _ hmp (λw hw=>?_)
  obtain⟨b,k,b1,b2,b3,b4,b5,b6,b7,b8⟩:=arcs w hw
  exact b7
 have hEl:∀w∈ps,(lastAt t w).edge.toNat<fl.length:=λw hw=>by
  obtain⟨b,k,b1,b2,b3,b4,b5,b6,b7,b8⟩:=arcs w hw
  rw[b6,x1f1,h.fll];exact b5
 have hPw:ps.Pairwise (λv w=>(lastAt t v).edge.toNat≠(lastAt t w).edge.toNat):=by
  refine List.Pairwise.imp_of_mem (R:=λa b=>a≠b) ?_ p3
  intro v w hv hw hvw
  obtain⟨q1,q2,q3,q4⟩:=p2 v hv
  obtain⟨r1,r2,r3,r4⟩:=p2 w hw
  have:=x1bm h W q1 q2 (by omega) r1 r2 (by omega) hvw
  obtain⟨_,k,_,_,_,_,_,b6,_⟩:=arcs v hv
  obtain⟨_,j,_,_,_,_,_,c6,_⟩:=arcs w hw
  rw[b6,c6]at this ⊢
  omega
 obtain⟨fl',hfl'⟩:∃fl',fl'=flowP t amt ps fl:=⟨_,rfl⟩
 obtain⟨tu',htu'⟩:∃tu',tu'=turnsP tu t.len D n:=⟨_,rfl⟩
 obtain⟨ex',hex'⟩:∃ex',ex'=(ex.set fr (at0 ex fr-amt)).set to (at0 ex to+amt):=⟨_,rfl⟩
 have lfr:fr<ex.length:=by rw[h.exl];exact hfr
 have lto:to<(ex.set fr (at0 ex fr-amt)).length:=by simp[h.exl,h2]
 have exv:∀v,at0 ex' v=if v=to then at0 ex to+amt else if v=fr then at0 ex fr-amt else at0 ex v:=λv=>by rw[hex',xt0 lto,xt0 lfr]
 have tuv:∀v,v<n->at0 tu' v=at0 tu v+minI (at0 t.len v) D:=λv hv=>by rw[htu',x1bn hv]
 have flg:=λk=>x17z t amt ps fl hEl hPw k
 rw[<-hfl']at flg
 have kcase:∀k,(∃w∈ps,(lastAt t w).edge.toNat=k)\/∀w∈ps,(lastAt t w).edge.toNat≠k:=λk=>by
  by_cases c:∃w∈ps,(lastAt t w).edge.toNat=k
  .exact Or.inl c
  .exact Or.inr λw hw e=>c ⟨w,hw,e⟩
 have hfo:FlowOK n l fl' tu' ex':=by
  refine⟨h.nn,h.ll,h.ed,by rw[hfl',x17y];exact h.fll,by rw[htu'];exact xy3 _ _ _ _,by rw[hex'];simp[h.exl],λk hk=>?_,λk hk=>?_,λv hv=>?_⟩
  .have hc:=h.cap k hk
   rcases kcase k with ⟨w,hw,hwk⟩|hno
   .rw[(flg k).1 w hw hwk]
    have hr:=al2 w hw
    obtain⟨b,j,b1,b2,b3,b4,b5,b6,b7,b8⟩:=arcs w hw
    have:j=k:=by rw[b6]at hwk;omega
    subst this
    rcases b8 with ⟨_,_,c3,c4,_⟩|⟨_,_,c3,c4,_⟩<;>rw[c3]<;>omega
   .rw[(flg k).2 hno];exact hc
  .obtain⟨⟨f0,f1,t0,t1,-⟩,hfe⟩:=xun h.ed hk
   have c0:=h.cs k hk
   rcases kcase k with ⟨w,hw,hwk⟩|hno
   .obtain⟨b,j,b1,⟨b2,b2'⟩,b3,b4,b5,b6,b7,b8⟩:=arcs w hw
    have:j=k:=by rw[b6]at hwk;omega
    subst this
    obtain⟨q1,q2,q3,q4⟩:=p2 w hw
    have hb:at0 tu' b=at0 tu b+at0 t.len b:=by rw[tuv b b1];unfold minI;rw[x1ey (by omega)]
    have hw':at0 tu' w=at0 tu w+at0 t.len w:=by rw[tuv w q1];unfold minI;rw[x1ey (by omega)]
    have hz:exI tu' (edgeAt l j)=0:=by
     unfold exI
     rcases b8 with ⟨c1,c2,_,_,c5⟩|⟨c1,c2,_,_,c5⟩
     .rw[c1,c2,x1f1,x1f1,hb,hw'];omega
     .rw[c1,c2,x1f1,x1f1,hb,hw'];omega
    rw[hz]
    exact⟨λ_=>x1ft _,λ_=>x1ft _⟩
   .rw[(flg k).2 hno]
    obtain⟨a,ha⟩:∃a:Nat,(edgeAt l k).fr=a:=⟨(edgeAt l k).fr.toNat,by omega⟩
    obtain⟨c,hc⟩:∃c:Nat,(edgeAt l k).to=c:=⟨(edgeAt l k).to.toNat,by omega⟩
    have han:a<n:=by omega
    have hcn:c<n:=by omega
    unfold exI at c0 ⊢
    rw[ha,hc,x1f1,x1f1]at c0
    rw[ha,hc,x1f1,x1f1,tuv a han,tuv c hcn]
    refine⟨λhlt=>?_,λhlt=>?_⟩
    .have e0:=c0.1 hlt
     have hi:=x11o (a:=(a:Nat)) hk (Or.inl ha)
     have e:arcAt l fl (a:Nat) (k:Nat)=⟨k,(edgeAt l k).to,1,(edgeAt l k).wt-at0 fl k,-(edgeAt l k).jump⟩:=by
      unfold arcAt
      simp only[x1f1]
      rw[x1ey (by omega)]
     by_cases hfa:at0 t.len a<farM
     .have:=W.cl a han hfa k ⟨hi,by rw[e];simp only;omega⟩
      rw[e]at this
      simp only[hc,x1f1]at this
      unfold minI;split<;>split<;>omega
     .unfold minI;split<;>split<;>omega
    .have e0:=c0.2 hlt
     have hi:=x11o (a:=(c:Nat)) hk (Or.inr hc)
     have e:arcAt l fl (c:Nat) (k:Nat)=⟨k,(edgeAt l k).fr,-1,(edgeAt l k).wt+at0 fl k,(edgeAt l k).jump⟩:=by
      unfold arcAt
      simp only[x1f1]
      rw[x1ez (by omega)]
     by_cases hfc:at0 t.len c<farM
     .have:=W.cl c hcn hfc k ⟨hi,by rw[e];simp only;omega⟩
      rw[e]at this
      simp only[ha,x1f1]at this
      unfold minI;split<;>split<;>omega
     .unfold minI;split<;>split<;>omega
  .have hN:=x180 (n:=n) (l:=l) (fr:=fr) (t:=t) amt v ps (to:Nat) fl h.fll p1 (λw hw=>by
    obtain⟨b,j,b1,b2,b3,b4,b5,b6,b7,b8⟩:=arcs w hw
    refine⟨b,j,b3,b5,b6,?_⟩
    rcases b8 with ⟨c1,c2,c3,_⟩|⟨c1,c2,c3,_⟩
    .exact Or.inl ⟨c1,c2,c3⟩
    .exact Or.inr ⟨c1,c2,c3⟩)
   rw[hfl',hN,exv v,x1f1,<-h.net v hv]
   unfold ind
   by_cases e1:v=to
   .have a1:¬fr=v:=λe=>hne (by omega)
    have a2:to=v:=e1.symm
    rw[x1ez e1,x1ez a2,x1ey a1,e1];omega
   .have a2:¬to=v:=λe=>e1 e.symm
    by_cases e2:v=fr
    .have a1:fr=v:=e2.symm
     rw[x1ey e1,x1ez e2,x1ey a2,x1ez a1,e2];omega
    .have a1:¬fr=v:=λe=>e2 e.symm
     rw[x1ey e1,x1ey e2,x1ey a2,x1ey a1];omega
 refine⟨to,ps,amt,?_⟩
 rw[<-ht,<-hD,<-hfl',<-htu',<-hex']
 refine⟨hT0,h2,hne,by rw[hD];exact h4,p1,λw hw=>?_,by have:=h.nn;omega,hamt,hap,by have:=hexb fr;omega,hfo,⟨P+D,by omega,by omega,λv hv=>?_,λv hv hv'=>?_⟩,?_⟩
 .obtain⟨b,j,b1,b2,b3,b4,b5,b6,b7,b8⟩:=arcs w hw
  have hc:=h.cap j b5
  obtain⟨⟨_,_,_,_,_,_,w0,w1⟩,_⟩:=xun h.ed b5
  rw[b6]
  refine⟨by omega,by omega,?_,by omega,?_⟩
  .rcases b8 with ⟨_,_,c,_⟩|⟨_,_,c,_⟩
   .exact Or.inr c
   .exact Or.inl c
  .rcases b8 with ⟨_,_,_,c,_⟩|⟨_,_,_,c,_⟩<;>omega
 .rw[tuv v hv]
  have h6:=hT.b v hv
  have h7:=W.nn v hv
  have h8:=x11l (x:=at0 t.len v) (b:=D)
  have h9:0<=minI (at0 t.len v) D:=minI_ge h7 hD0
  omega
 .rw[tuv v hv]
  have hv0:at0 ex v<0:=by
   rw[exv v]at hv'
   by_cases e1:v=to
   .rw[e1];exact h3
   .rw[x1ey e1]at hv'
    by_cases e2:v=fr
    .rw[x1ez e2]at hv';omega
    .rw[x1ey e2]at hv';exact hv'
  rw[hT.m v hv hv0]
  have:=h5 v hv hv0
  unfold minI
  split<;>omega
 .unfold posS
  have e:∀v,(if 0<at0 ex v then at0 ex v else 0)=(if 0<at0 ex' v then at0 ex' v else 0)+(if fr=v then(λ_=>1) v*amt else 0):=by
   intro v
   rw[exv v]
   by_cases e1:v=to
   .have a1:¬fr=v:=λe=>hne (by omega)
    have a3:at0 ex v=at0 ex to:=by rw[e1]
    rw[x1ez e1,x1ey a1,x1ey (by omega),x1ey (by omega)];rfl
   .rw[x1ey e1]
    by_cases e2:v=fr
    .have a1:fr=v:=e2.symm
     have a3:at0 ex v=at0 ex fr:=by rw[e2]
     rw[x1ez e2,x1ez a1,x1ez (by omega)]
     simp only[Int.one_mul]
     split<;>omega
    .have a1:¬fr=v:=λe=>e2 e.symm
     rw[x1ey e2,x1ey a1];omega
  rw[x146 (λv _=>e v),xzz,x100 hfr]
  omega
structure Stp where
 fr:Int
 to:Int
 ed:Int
 sg:Int
 gain:Int
 room:Int
def s00:Stp:=⟨0,0,0,0,0,0⟩
def stpAt(S:List Stp)(i:Nat):Stp:=S.getD i s00
theorem xxd{S:List Stp}{i:Nat}(h:i<S.length):stpAt S i=S[i]:=by
 unfold stpAt;rw[x1fd,x1fs h];rfl
def stpE(l:List Edge)(fl:List Int)(k:Nat):List Stp:=
 (if at0 fl k<(edgeAt l k).wt then[⟨(edgeAt l k).fr,(edgeAt l k).to,k,1,(edgeAt l k).jump,(edgeAt l k).wt-at0 fl k⟩]else[]) ++
 (if -(edgeAt l k).wt<at0 fl k then[⟨(edgeAt l k).to,(edgeAt l k).fr,k,-1,-(edgeAt l k).jump,(edgeAt l k).wt+at0 fl k⟩]else[])
def xrz(l:List Edge)(fl:List Int):List Stp:=(List.range l.length).flatMap (stpE l fl)
def StpOf(l:List Edge)(fl:List Int)(s:Stp):Prop:=∃k:Nat,k<l.length/\s.ed=k/\0<s.room /\
 ((s.fr=(edgeAt l k).fr/\s.to=(edgeAt l k).to/\s.sg=1/\s.gain=(edgeAt l k).jump/\s.room=(edgeAt l k).wt-at0 fl k) \/
  (s.fr=(edgeAt l k).to/\s.to=(edgeAt l k).fr/\s.sg=-1/\s.gain=-(edgeAt l k).jump/\s.room=(edgeAt l k).wt+at0 fl k))
theorem x11p{l:List Edge}{fl:List Int}{s:Stp}(h:s∈xrz l fl):StpOf l fl s:=by
 unfold xrz at h
 obtain⟨k,hk,hs⟩:=x1g7.mp h
 rw[x1fn]at hk
 refine⟨k,hk,?_⟩
 unfold stpE at hs
 rcases x1fw.mp hs with hs|hs
 .split at hs
  .rw[x1fv]at hs
   subst hs
   exact⟨rfl,by simp only;omega,Or.inl ⟨rfl,rfl,rfl,rfl,rfl⟩⟩
  .simp at hs
 .split at hs
  .rw[x1fv]at hs
   subst hs
   exact⟨rfl,by simp only;omega,Or.inr ⟨rfl,rfl,rfl,rfl,rfl⟩⟩
  .simp at hs
theorem x181{l:List Edge}{fl:List Int}(hl:fl.length=l.length){u v:Nat}{c:Int}(h:Arc (l.zip fl) u v c):∃s∈xrz l fl,s.fr.toNat=u/\s.to.toNat=v/\s.gain=-c:=by
 obtain⟨x,hx,h⟩:=h
 obtain⟨k,hk,rfl⟩:=(xtq hl).mp hx
 rcases h with ⟨h1,rfl,rfl,rfl⟩|⟨h1,rfl,rfl,rfl⟩
 .simp only at h1
  refine⟨⟨(edgeAt l k).fr,(edgeAt l k).to,k,1,(edgeAt l k).jump,(edgeAt l k).wt-at0 fl k⟩,?_,rfl,rfl,by simp⟩
  exact x1g7.mpr ⟨k,x1fn.mpr hk,x1hj _ (by rw[x1ez h1];exact x1fv.mpr rfl)⟩
 .simp only at h1
  refine⟨⟨(edgeAt l k).to,(edgeAt l k).fr,k,-1,-(edgeAt l k).jump,(edgeAt l k).wt+at0 fl k⟩,?_,rfl,rfl,rfl⟩
  exact x1g7.mpr ⟨k,x1fn.mpr hk,x1jc _ (by rw[x1ez h1];exact x1fv.mpr rfl)⟩
theorem arc_steps{l:List Edge}{fl:List Int}(hl:fl.length=l.length){s:Stp}(h:s∈xrz l fl):Arc (l.zip fl) s.fr.toNat s.to.toNat (-s.gain):=by
 obtain⟨k,hk,he,hr,h⟩:=x11p h
 refine⟨(edgeAt l k,at0 fl k),(xtq hl).mpr ⟨k,hk,rfl⟩,?_⟩
 rcases h with ⟨a,b,c,d,e⟩|⟨a,b,c,d,e⟩
 .exact Or.inl ⟨by simp only;omega,by rw[a],by rw[b],by rw[d]⟩
 .exact Or.inr ⟨by simp only;omega,by rw[a],by rw[b],by rw[d];simp⟩
structure SOK (J:Int) (n:Nat) (S:List Stp):Prop where
 ok:∀i,i<S.length->(0<=(stpAt S i).fr/\(stpAt S i).fr<n)/\(0<=(stpAt S i).to/\(stpAt S i).to<n)/\(stpAt S i).fr≠(stpAt S i).to/\(-J<=(stpAt S i).gain/\(stpAt S i).gain<=J)
theorem x14b{J:Int}{n:Nat}{l:List Edge}{fl:List Int}(hS:Slim J n l):SOK J n (xrz l fl):=by
 constructor
 intro i hi
 rw[xxd hi]
 obtain⟨k,hk,he,hr,h⟩:=x11p (x1fg hi)
 obtain⟨⟨f0,f1,t0,t1,-⟩,hne⟩:=xun hS.ed hk
 have hj:-J<=(edgeAt l k).jump/\(edgeAt l k).jump<=J:=by rw[xtw hk];have:=hS.jw _ (x1fg hk);omega
 rcases h with ⟨a,b,c,d,e⟩|⟨a,b,c,d,e⟩<;>omega
structure BF where
 far:List Int
 by':List Int
 last:Int
def xuv(S:List Stp)(i:Nat)(b:BF):BF:=
 if at0 b.far (stpAt S i).to.toNat<at0 b.far (stpAt S i).fr.toNat+(stpAt S i).gain then
  ⟨b.far.set (stpAt S i).to.toNat (at0 b.far (stpAt S i).fr.toNat+(stpAt S i).gain),b.by'.set (stpAt S i).to.toNat i,(stpAt S i).to⟩else b
def xuw(S:List Stp):Nat->Nat->BF->BF
 |0,_,b=>b
 |k+1,i,b=>xuw S k (i+1) (xuv S i b)
def xt7(S:List Stp)(b:BF):BF:=xuw S S.length 0 ⟨b.far,b.by',-1⟩
def xsr(S:List Stp):Nat->BF->BF
 |0,b=>b
 |k+1,b=>if(xt7 S b).last<0 then xt7 S b else xsr S k (xt7 S b)
def sT(len r i j:Nat):Nat:=if j<i then r*len+j+1 else r*len+j+1-len
structure BFI (J:Int) (n:Nat) (S:List Stp) (r i:Nat) (b:BF) (ta:Nat->Nat):Prop where
 fl:b.far.length=n
 bl:b.by'.length=n
 le:∀v,ta v<=r*S.length+i
 inj:∀u v,ta u=ta v->0<ta u->u=v
 bnd:∀v,0<=at0 b.far v/\at0 b.far v<=J*(r*S.length+i:Nat)
 bb:∀v,0<=at0 b.by' v/\(at0 b.by' v).toNat<=S.length
 arc:∀j,j<S.length->0<sT S.length r i j->at0 b.far (stpAt S j).fr.toNat+(stpAt S j).gain<=at0 b.far (stpAt S j).to.toNat\/sT S.length r i j<ta (stpAt S j).fr.toNat
 pre:∀v,v<n->0<ta v->(at0 b.by' v).toNat<S.length/\(stpAt S (at0 b.by' v).toNat).to=v /\
  at0 b.far v<=at0 b.far (stpAt S (at0 b.by' v).toNat).fr.toNat+(stpAt S (at0 b.by' v).toNat).gain /\
  (ta v<ta (stpAt S (at0 b.by' v).toNat).fr.toNat->at0 b.far v<at0 b.far (stpAt S (at0 b.by' v).toNat).fr.toNat+(stpAt S (at0 b.by' v).toNat).gain) /\
  (S.length<ta v->ta v<ta (stpAt S (at0 b.by' v).toNat).fr.toNat+S.length)
 la:b.last=-1\/∃v,v<n/\b.last=(v:Nat)/\r*S.length<ta v
theorem x182{J:Int}{n:Nat}{S:List Stp}(hS:SOK J n S)(hJ:0<=J){r i:Nat}{b:BF}{ta:Nat->Nat}(h:BFI J n S r i b ta)(hi:i<S.length):∃ta',BFI J n S r (i+1) (xuv S i b) ta':=by
 obtain⟨⟨f0,f1⟩,⟨t0,t1⟩,hne,g0,g1⟩:=hS.ok i hi
 have hst:∀j,j≠i->sT S.length r (i+1) j=sT S.length r i j:=λj hj=>by
  unfold sT
  by_cases c:j<i
  .rw[x1ez c,x1ez (by omega)]
  .rw[x1ey c,x1ey (by omega)]
 have hsi:sT S.length r (i+1) i=r*S.length+i+1:=by unfold sT;rw[x1ez (by omega)]
 have hsi0:sT S.length r i i=r*S.length+i+1-S.length:=by unfold sT;rw[x1ey (by omega)]
 have hmul:J*((r*S.length+(i+1):Nat):Int)=J*((r*S.length+i:Nat):Int)+J:=by
  rw[show((r*S.length+(i+1):Nat):Int)=((r*S.length+i:Nat):Int)+1 by omega,Int.mul_add,Int.mul_one]
 obtain⟨x,hx⟩:∃x:Nat,(stpAt S i).fr=x:=⟨(stpAt S i).fr.toNat,by omega⟩
 obtain⟨y,hy⟩:∃y:Nat,(stpAt S i).to=y:=⟨(stpAt S i).to.toNat,by omega⟩
 unfold xuv
 by_cases c:at0 b.far (stpAt S i).to.toNat<at0 b.far (stpAt S i).fr.toNat+(stpAt S i).gain
 rotate_left
 .rw[x1ey c]
  refine⟨ta,h.fl,h.bl,λv=>by have:=h.le v;omega,h.inj,λv=>by have:=h.bnd v;omega,h.bb,λj hj hs=>?_,h.pre,h.la⟩
  by_cases e:j=i
  .subst e;left;omega
  .rw[hst j e]at hs ⊢;exact h.arc j hj hs
 rw[x1ez c]
 rw[hx,hy,x1f1,x1f1]at c ⊢
 have hyn:y<n:=by omega
 have hxn:x<n:=by omega
 have hxy:x≠y:=by omega
 have hF:∀v,at0 (b.far.set y (at0 b.far x+(stpAt S i).gain)) v=if v=y then at0 b.far x+(stpAt S i).gain else at0 b.far v:=λv=>xt0 (by rw[h.fl];exact hyn)
 have hB:∀v,at0 (b.by'.set y (i:Nat)) v=if v=y then((i:Nat):Int)else at0 b.by' v:=λv=>xt0 (by rw[h.bl];exact hyn)
 refine⟨λv=>if v=y then r*S.length+i+1 else ta v,by simpa using h.fl,by simpa using h.bl,λv=>?_,λu v hu h0=>?_,λv=>?_,λv=>?_,λj hj hs=>?_,λv hv h0=>?_,?_⟩
 .have:=h.le v
  split<;>omega
 .have hu':=h.le u
  have hv':=h.le v
  by_cases e1:u=y<;>by_cases e2:v=y
  .omega
  .rw[x1ez e1,x1ey e2]at hu;omega
  .rw[x1ey e1,x1ez e2]at hu;omega
  .rw[x1ey e1,x1ey e2]at hu;rw[x1ey e1]at h0;exact h.inj u v hu h0
 .rw[hF]
  have h1:=h.bnd v
  have h2:=h.bnd x
  have h3:=h.bnd y
  split<;>omega
 .rw[hB]
  have:=h.bb v
  split<;>omega
 .by_cases e:j=i
  .subst e
   left
   rw[hx,hy,x1f1,x1f1,hF,hF,x1ey hxy,x1ez rfl]
   exact x1ft _
  .rw[hst j e]at hs ⊢
   obtain⟨⟨j0,j1⟩,⟨k0,k1⟩,jne,-⟩:=hS.ok j hj
   have hle:sT S.length r i j<r*S.length+i+1:=by unfold sT;split<;>omega
   by_cases e2:(stpAt S j).fr.toNat=y
   .right
    rw[x1ez e2]
    exact hle
   .rcases h.arc j hj hs with g|g
    .left
     rw[hF,hF,x1ey e2]
     split
     .rename_i e3;rw[e3]at g;omega
     .exact g
    .right
     rw[x1ey e2]
     exact g
 .by_cases e:v=y
  .subst e
   have e1:at0 (b.by'.set v (i:Nat)) v=(i:Nat):=by rw[hB,x1ez rfl]
   rw[e1,x1f1,hx,x1f1,hF,hF,x1ez rfl,x1ey hxy,x1ez rfl,x1ey hxy]
   refine⟨hi,hy,x1ft _,λg=>by have:=h.le x;omega,λg=>?_⟩
   have:=h.arc i hi (by rw[hsi0];omega)
   rw[hsi0,hx,hy,x1f1,x1f1]at this
   rcases this with g2|g2<;>omega
  .rw[x1ey e]at h0
   have e1:at0 (b.by'.set y (i:Nat)) v=at0 b.by' v:=by rw[hB,x1ey e]
   obtain⟨p1,p2,p3,p4,p5⟩:=h.pre v hv h0
   have hv2:=h.le v
   rw[e1,hF,hF,x1ey e,x1ey e]
   refine⟨p1,p2,?_,?_,?_⟩
   .split
    .rename_i e3;rw[e3]at p3;omega
    .exact p3
   .split
    .rename_i e3;rw[e3]at p3;intro _;omega
    .exact p4
   .split
    .intro _;omega
    .exact p5
 .right
  refine⟨y,hyn,rfl,?_⟩
  rw[x1ez rfl]
  omega
theorem pss_ok{J:Int}{n:Nat}{S:List Stp}(hS:SOK J n S)(hJ:0<=J){r:Nat}:∀(k i:Nat) {b:BF} {ta:Nat->Nat},i+k<=S.length->BFI J n S r i b ta->∃ta',BFI J n S r (i+k) (xuw S k i b) ta'
 |0,i,b,ta,_,h=>⟨ta,h⟩
 |k+1,i,b,ta,hk,h=>by
  obtain⟨ta',h'⟩:=x182 hS hJ h (by omega)
  obtain⟨t2,h2⟩:=pss_ok hS hJ k (i+1) (by omega) h'
  rw[show i+1+k=i+(k+1) by omega]at h2
  exact⟨t2,h2⟩
theorem rnd_ok{J:Int}{n:Nat}{S:List Stp}(hS:SOK J n S)(hJ:0<=J){r:Nat}{b:BF}{ta:Nat->Nat}(h:BFI J n S r 0 b ta):∃ta',BFI J n S r S.length (xt7 S b) ta':=by
 have h1:BFI J n S r 0 ⟨b.far,b.by',-1⟩ ta:=⟨h.fl,h.bl,h.le,h.inj,h.bnd,h.bb,h.arc,h.pre,Or.inl rfl⟩
 have:=pss_ok hS hJ S.length 0 (by omega) h1
 rw[x1f9]at this
 exact this
theorem x183{J:Int}{n:Nat}{S:List Stp}{r:Nat}{b:BF}{ta:Nat->Nat}(h:BFI J n S r S.length b ta):BFI J n S (r+1) 0 ⟨b.far,b.by',-1⟩ ta:=by
 have e:(r+1)*S.length=r*S.length+S.length:=x1fx _ _
 refine⟨h.fl,h.bl,λv=>by have:=h.le v;omega,h.inj,λv=>by have:=h.bnd v;rw[show(r+1)*S.length+0=r*S.length+S.length by omega];exact this,h.bb,λj hj=>?_,h.pre,Or.inl rfl⟩
 have e2:sT S.length (r+1) 0 j=sT S.length r S.length j:=by
  unfold sT
  rw[x1ey (by omega),x1ez hj]
  omega
 rw[e2]
 exact h.arc j hj
theorem x184{S:List Stp}(hS:∀i,i<S.length->0<=(stpAt S i).to):∀(k i:Nat) (b:BF),i+k<=S.length->0<=b.last->0<=(xuw S k i b).last
 |0,_,_,_,h=>h
 |k+1,i,b,hk,h=>by
  refine x184 hS k (i+1) _ (by omega) ?_
  unfold xuv
  split
  .exact hS i (by omega)
  .exact h
theorem x185{S:List Stp}(hS:∀i,i<S.length->0<=(stpAt S i).to):∀(k i:Nat) (b:BF),i+k<=S.length->(xuw S k i b).last<0 ->
 xuw S k i b=b/\∀j,i<=j->j<i+k->at0 b.far (stpAt S j).fr.toNat+(stpAt S j).gain<=at0 b.far (stpAt S j).to.toNat
 |0,i,b,_,h=>⟨rfl,λj h1 h2=>by omega⟩
 |k+1,i,b,hk,h=>by
  simp only[xuw]at h ⊢
  by_cases c:at0 b.far (stpAt S i).to.toNat<at0 b.far (stpAt S i).fr.toNat+(stpAt S i).gain
  .exfalso
   have:=x184 hS k (i+1) (xuv S i b) (by omega) (by unfold xuv;rw[x1ez c];exact hS i (by omega))
   omega
  .have e:xuv S i b=b:=by unfold xuv;rw[x1ey c]
   rw[e]at h ⊢
   obtain⟨h1,h2⟩:=x185 hS k (i+1) b (by omega) h
   refine⟨h1,λj j1 j2=>?_⟩
   by_cases e2:j=i
   .subst e2;omega
   .exact h2 j (by omega) (by omega)
theorem x186{J:Int}{n:Nat}{S:List Stp}(hS:SOK J n S)(hJ:0<=J):∀(k r:Nat) {b:BF} {ta:Nat->Nat},BFI J n S r 0 b ta ->
 ((xsr S (k+1) b).last<0/\(xsr S (k+1) b).far.length=n/\∀j,j<S.length->at0 (xsr S (k+1) b).far (stpAt S j).fr.toNat+(stpAt S j).gain<=at0 (xsr S (k+1) b).far (stpAt S j).to.toNat) \/
 (∃ta',BFI J n S (r+k) S.length (xsr S (k+1) b) ta'/\∃v,v<n/\(xsr S (k+1) b).last=(v:Nat)/\(r+k)*S.length<ta' v)
 |k,r,b,ta,h=>by
  obtain⟨t1,h1⟩:=rnd_ok hS hJ h
  have hto:∀i,i<S.length->0<=(stpAt S i).to:=λi hi=>(hS.ok i hi).2.1.1
  by_cases c:(xt7 S b).last<0
  .left
   have e:xsr S (k+1) b=xt7 S b:=by simp only[xsr];rw[x1ez c]
   rw[e]
   obtain⟨e1,e2⟩:=x185 hto S.length 0 ⟨b.far,b.by',-1⟩ (by omega) c
   refine⟨c,h1.fl,λj hj=>?_⟩
   have e3:(xt7 S b).far=b.far:=by unfold xt7;rw[e1]
   rw[e3]
   exact e2 j (by omega) (by omega)
  .have e:xsr S (k+1) b=xsr S k (xt7 S b):=by rw[xsr];rw[x1ey c]
   rw[e]
   cases k with
   |zero=>
    right
    refine⟨t1,h1,?_⟩
    rcases h1.la with g|g
    .simp only[xsr]at c ⊢;omega
    .exact g
   |succ k=>
    have h2:=x183 h1
    have e4:xsr S (k+1) (xt7 S b)=xsr S (k+1) ⟨(xt7 S b).far,(xt7 S b).by',-1⟩:=rfl
    rw[e4]
    have:=x186 hS hJ k (r+1) h2
    rw[show r+1+k=r+(k+1) by omega]at this
    exact this
theorem BFI.init{J:Int}{n:Nat}{S:List Stp}(hJ:0<=J):BFI J n S 0 0 ⟨List.replicate n 0,List.replicate n 0,-1⟩ (λ_=>0):=by
 refine⟨by simp,by simp,λv=>x1hn _,λu v _ h=>by omega,λv=>?_,λv=>?_,λj hj hs=>?_,λv _ h=>by omega,Or.inl rfl⟩
 .simp only[xzr];simp
 .simp only[xzr];simp
 .unfold sT at hs
  rw[x1ey (by omega)]at hs
  omega
def itr(f:Nat->Nat):Nat->Nat->Nat
 |0,v=>v
 |m+1,v=>itr f m (f v)
theorem xva(f:Nat->Nat):∀(a b v:Nat),itr f (a+b) v=itr f b (itr f a v)
 |0,b,v=>by rw[x1f9];rfl
 |a+1,b,v=>by rw[show a+1+b=(a+b)+1 by omega];exact xva f a b (f v)
theorem xwm(f:Nat->Nat)(a v:Nat):itr f (a+1) v=f (itr f a v):=xva f a 1 v
def prN(S:List Stp)(by':List Int)(v:Nat):Nat:=(stpAt S (at0 by' v).toNat).fr.toNat
def stB(S:List Stp)(by':List Int)(v:Nat):Stp:=stpAt S (at0 by' v).toNat
theorem pigeon(V:Nat->Nat)(n:Nat)(h:∀i,i<=n->V i<n):∃i j,i<j/\j<=n/\V i=V j:=by
 have key:∀k,k<=n+1->(∃i j,i<j/\j<k/\V i=V j)\/((List.range k).map V).Nodup:=by
  intro k
  induction k with
  |zero=>intro _;right;simp
  |succ k ih=>
   intro hk
   rcases ih (by omega)with ⟨i,j,a,b,c⟩|hn
   .left;exact⟨i,j,a,by omega,c⟩
   .by_cases hm:V k∈(List.range k).map V
    .left
     obtain⟨i,hi,hv⟩:=x1fj.mp hm
     rw[x1fn]at hi
     exact⟨i,k,hi,by omega,hv⟩
    .right
     rw[x1hb,x1h0,x1h8]
     refine⟨hn,by simp,λa ha b hb=>?_⟩
     simp only[x1fl,x1gf,x1fv]at hb
     subst hb
     exact λe=>hm (e▸ha)
 rcases key (n+1) (x1f3 _)with ⟨i,j,a,b,c⟩|hn
 .exact⟨i,j,a,by omega,c⟩
 .exfalso
  have:=x149 (n:=n) hn (λw hw=>by
   obtain⟨i,hi,rfl⟩:=x1fj.mp hw
   rw[x1fn]at hi
   exact h i (by omega))
  rw[x1he,x1iy]at this
  omega
theorem x187{P:Nat->Prop}:∀d,P d->∃d,P d/\∀e,e<d->¬P e:=by
 intro d
 induction d using Nat.strongRecOn with
 |_ d ih=>
  intro h
  by_cases c:∃e,e<d/\P e
  .obtain⟨e,h1,h2⟩:=c
   exact ih e h1 h2
  .exact⟨d,h,λe he hp=>c ⟨e,he,hp⟩⟩
structure Cyc (n:Nat) (S:List Stp) (by' far:List Int) (ta:Nat->Nat) (x d:Nat):Prop where
 d0:1<=d
 d1:d<=n
 back:itr (prN S by') d x=x
 min:∀e,1<=e->e<d->itr (prN S by') e x≠x
 good:∀m,itr (prN S by') m x<n/\0<ta (itr (prN S by') m x)
theorem cycle_ok{J:Int}{n:Nat}{S:List Stp}(hS:SOK J n S){b:BF}{ta:Nat->Nat}(h:BFI J n S n S.length b ta){v0:Nat}(hv:v0<n)(hta:n*S.length<ta v0) :
 (∀m,itr (prN S b.by') m v0<n/\0<ta (itr (prN S b.by') m v0))/\∃d,Cyc n S b.by' b.far ta (itr (prN S b.by') n v0) d:=by
 obtain⟨f,hf⟩:∃f,f=prN S b.by':=⟨_,rfl⟩
 have hpr:∀v,v<n->0<ta v->f v<n/\(S.length<ta v->ta v<ta (f v)+S.length):=λv hv h0=>by
  obtain⟨p1,p2,p3,p4,p5⟩:=h.pre v hv h0
  have:=(hS.ok _ p1).1
  rw[hf]
  unfold prN
  exact⟨by omega,p5⟩
 have hV:∀k,k<=n->itr f k v0<n/\(n-k)*S.length<ta (itr f k v0):=by
  intro k
  induction k with
  |zero=>intro _;exact⟨hv,hta⟩
  |succ k ih=>
   intro hk
   obtain⟨i1,i2⟩:=ih (by omega)
   obtain⟨q1,q2⟩:=hpr _ i1 (by omega)
   rw[xwm]
   refine⟨q1,?_⟩
   have e:(n-k)*S.length=(n-(k+1))*S.length+S.length:=by
    rw[show n-k=(n-(k+1))+1 by omega,x1fx]
   have:=q2 (by omega)
   omega
 obtain⟨i,j,hij,hj,he⟩:=pigeon (λk=>itr f k v0) n (λk hk=>(hV k hk).1)
 have he:itr f i v0=itr f j v0:=he
 have hall:∀m,∃k,k<=n/\itr f m v0=itr f k v0:=by
  intro m
  induction m with
  |zero=>exact⟨0,x1hn _,rfl⟩
  |succ m ih=>
   obtain⟨k,hk,e⟩:=ih
   by_cases c:k<n
   .exact⟨k+1,by omega,by rw[xwm,xwm,e]⟩
   .have hk':k=n:=by omega
    refine⟨i+(n+1-j),by omega,?_⟩
    rw[xwm,e,<-xwm f,hk',xva f i,he,<-xva]
    congr 1
    omega
 have hgood:∀m,itr f m v0<n/\0<ta (itr f m v0):=λm=>by
  obtain⟨k,hk,e⟩:=hall m
  rw[e]
  have:=hV k hk
  exact⟨this.1,by omega⟩
 have hback:itr f (j-i) (itr f n v0)=itr f n v0:=by
  rw[<-xva,show n+(j-i)=j+(n-i) by omega,xva,<-he,<-xva]
  congr 1
  omega
 obtain⟨d,⟨hd1,hd2⟩,hd3⟩:=x187 (P:=λd=>1<=d/\itr f d (itr f n v0)=itr f n v0) (j-i) ⟨by omega,hback⟩
 rw[<-hf]
 refine⟨hgood,d,⟨hd1,?_,by rw[<-hf];exact hd2,λe h1 h2 h3=>hd3 e h2 ⟨h1,by rw[<-hf]at h3;exact h3⟩,λm=>by rw[<-hf,<-xva];exact hgood _⟩⟩
 by_cases c:d<=j-i
 .omega
 .exact absurd ⟨by omega,hback⟩ (hd3 (j-i) (by omega))
def tl(f:Nat->Nat):Nat->Nat->List Nat
 |0,_=>[]
 |k+1,a=>a::tl f k (f a)
theorem tl_len(f:Nat->Nat):∀k a,(tl f k a).length=k
 |0,_=>rfl
 |k+1,a=>by simp[tl,tl_len f k]
theorem x11q{f:Nat->Nat}:∀{k a w:Nat},w∈tl f k a->∃j,j<k/\w=itr f j a
 |0,a,w,h=>by simp[tl]at h
 |k+1,a,w,h=>by
  rcases x1fe.mp h with rfl|h
  .exact⟨0,by omega,rfl⟩
  .obtain⟨j,hj,e⟩:=x11q h
   exact⟨j+1,by omega,e⟩
def CyI(f:Nat->Nat)(x:Nat):Nat->List Nat->Prop
 |a,[]=>a=x
 |a,w::ws=>a=w/\w≠x/\CyI f x (f w) ws
theorem cyc_back{n:Nat}{S:List Stp}{by' far:List Int}{ta:Nat->Nat}{x d:Nat}(h:Cyc n S by' far ta x d):CyI (prN S by') x (prN S by' x) (tl (prN S by') (d-1) (prN S by' x)):=by
 have key:∀k,k+1<=d->CyI (prN S by') x (itr (prN S by') (d-k) x) (tl (prN S by') k (itr (prN S by') (d-k) x)):=by
  intro k
  induction k with
  |zero=>intro _;exact h.back
  |succ k ih=>
   intro hk
   refine⟨rfl,h.min _ (by omega) (by omega),?_⟩
   have:=ih (by omega)
   rw[show d-k=(d-(k+1))+1 by omega,xwm]at this
   exact this
 have:=key (d-1) (by have:=h.d0;omega)
 rw[show d-(d-1)=0+1 by have:=h.d0;omega,xwm]at this
 exact this
theorem tl_nodup{n:Nat}{S:List Stp}{by' far:List Int}{ta:Nat->Nat}{x d:Nat}(h:Cyc n S by' far ta x d):(tl (prN S by') d x).Nodup:=by
 have key:∀k,k<=d->(tl (prN S by') k (itr (prN S by') (d-k) x)).Nodup:=by
  intro k
  induction k with
  |zero=>intro _;exact x1jf
  |succ k ih=>
   intro hk
   have i1:=ih (by omega)
   rw[show d-k=(d-(k+1))+1 by omega,xwm]at i1
   refine x1gg.mpr ⟨λhm=>?_,i1⟩
   obtain⟨j,hj,e⟩:=x11q hm
   rw[<-xwm (prN S by'),<-xva]at e
   have e2:itr (prN S by') (k+1) (itr (prN S by') (d-(k+1)) x)=itr (prN S by') (k+1) (itr (prN S by') (d-(k+1)+1+j) x):=by rw[<-e]
   rw[<-xva,<-xva,show d-(k+1)+(k+1)=d by omega,show d-(k+1)+1+j+(k+1)=d+(j+1) by omega,xva,h.back]at e2
   exact h.min (j+1) (by omega) (by omega) e2.symm
 have:=key d (x1f3 _)
 rw[x1h3]at this
 exact this
def gsum(S:List Stp)(by':List Int):List Nat->Int
 |[]=>0
 |w::ws=>(stB S by' w).gain+gsum S by' ws
theorem BFI.step{J:Int}{n:Nat}{S:List Stp}(hS:SOK J n S){r i:Nat}{b:BF}{ta:Nat->Nat}(h:BFI J n S r i b ta){v:Nat}(hv:v<n)(h0:0<ta v) :
 stB S b.by' v∈S/\(stB S b.by' v).to=v/\(stB S b.by' v).fr=(prN S b.by' v:Nat)/\prN S b.by' v≠v/\at0 b.far v<=at0 b.far (prN S b.by' v)+(stB S b.by' v).gain /\
  (ta v<ta (prN S b.by' v)->at0 b.far v<at0 b.far (prN S b.by' v)+(stB S b.by' v).gain):=by
 obtain⟨p1,p2,p3,p4,p5⟩:=h.pre v hv h0
 have hok:=hS.ok _ p1
 refine⟨?_,p2,?_,?_,p3,p4⟩
 .unfold stB;rw[xxd p1];exact x1fg p1
 .unfold stB prN;omega
 .unfold prN;omega
theorem gsum_ge{J:Int}{n:Nat}{S:List Stp}(hS:SOK J n S){r i:Nat}{b:BF}{ta:Nat->Nat}(h:BFI J n S r i b ta):∀(k a:Nat),(∀m,m<=k->itr (prN S b.by') m a<n/\0<ta (itr (prN S b.by') m a)) ->
 at0 b.far a<=at0 b.far (itr (prN S b.by') k a)+gsum S b.by' (tl (prN S b.by') k a)/\(at0 b.far a<at0 b.far (itr (prN S b.by') k a)+gsum S b.by' (tl (prN S b.by') k a)\/ta (itr (prN S b.by') k a)<ta a\/k=0)
 |0,a,_=>⟨by simp[itr,tl,gsum],Or.inr (Or.inr rfl)⟩
 |k+1,a,hg=>by
  obtain⟨g1,g2⟩:=hg 0 (by omega)
  have g1:a<n:=g1
  have g2:0<ta a:=g2
  obtain⟨s1,s2,s3,s4,s5,s6⟩:=h.step hS g1 g2
  obtain⟨i1,i2⟩:=gsum_ge hS h k (prN S b.by' a) (λm hm=>hg (m+1) (by omega))
  have e:itr (prN S b.by') (k+1) a=itr (prN S b.by') k (prN S b.by' a):=rfl
  simp only[tl,gsum]
  rw[e]
  refine⟨by omega,?_⟩
  by_cases c:ta a<ta (prN S b.by' a)
  .left;have:=s6 c;omega
  .have hne:ta (prN S b.by' a)≠ta a:=λe=>s4 (h.inj _ _ e (by omega))
   rcases i2 with g|g|g
   .left;omega
   .right;left;omega
   .subst g
    right;left
    show ta (prN S b.by' a)<ta a
    omega
theorem gain_pos{J:Int}{n:Nat}{S:List Stp}(hS:SOK J n S){r i:Nat}{b:BF}{ta:Nat->Nat}(h:BFI J n S r i b ta){x d:Nat}(hc:Cyc n S b.by' b.far ta x d):0<gsum S b.by' (tl (prN S b.by') d x):=by
 obtain⟨h1,h2⟩:=gsum_ge hS h d x (λm _=>hc.good m)
 rw[hc.back]at h1 h2
 have:=hc.d0
 rcases h2 with g|g|g<;>omega
def xty(S:List Stp)(by':List Int)(room:Int)(ws:List Nat)(fl:List Int):List Int:=ws.foldl (λo w=>o.set (stB S by' w).ed.toNat (at0 o (stB S by' w).ed.toNat+(stB S by' w).sg*room)) fl
def xvb(S:List Stp)(by':List Int)(ws:List Nat)(r:Int):Int:=ws.foldl (λr w=>minI r (stB S by' w).room) r
theorem room_le(S:List Stp)(by':List Int):∀(ws:List Nat) (r:Int),xvb S by' ws r<=r/\∀w∈ws,xvb S by' ws r<=(stB S by' w).room
 |[],r=>⟨x1ft _,λw h=>by simp at h⟩
 |v::ws,r=>by
  have e:xvb S by' (v::ws) r=xvb S by' ws (minI r (stB S by' v).room):=rfl
  obtain⟨h1,h2⟩:=room_le S by' ws (minI r (stB S by' v).room)
  have h3:minI r (stB S by' v).room<=r:=by unfold minI;split<;>omega
  have h4:minI r (stB S by' v).room<=(stB S by' v).room:=by unfold minI;split<;>omega
  rw[e]
  refine⟨by omega,λw hw=>?_⟩
  rcases x1fe.mp hw with rfl|hw
  .omega
  .exact h2 w hw
theorem x188(S:List Stp)(by':List Int):∀(ws:List Nat) (r:Int),0<r->(∀w∈ws,0<(stB S by' w).room)->0<xvb S by' ws r
 |[],r,h,_=>h
 |v::ws,r,h,hp=>by
  have e:xvb S by' (v::ws) r=xvb S by' ws (minI r (stB S by' v).room):=rfl
  rw[e]
  refine x188 S by' ws _ ?_ (λw hw=>hp w (x1f6 _ hw))
  have:=hp v (x1f7 ..)
  unfold minI;split<;>omega
theorem x14c(S:List Stp)(by':List Int)(room:Int):∀(ws:List Nat) (fl:List Int),(xty S by' room ws fl).length=fl.length
 |[],_=>rfl
 |v::ws,fl=>by
  have e:xty S by' room (v::ws) fl=xty S by' room ws (fl.set (stB S by' v).ed.toNat (at0 fl (stB S by' v).ed.toNat+(stB S by' v).sg*room)):=rfl
  rw[e,x14c S by' room ws];simp
theorem x189(S:List Stp)(by':List Int)(room:Int):∀(ws:List Nat) (fl:List Int),(∀w∈ws,(stB S by' w).ed.toNat<fl.length)->ws.Pairwise (λv w=>(stB S by' v).ed.toNat≠(stB S by' w).ed.toNat)->∀k,
 (∀w∈ws,(stB S by' w).ed.toNat=k->at0 (xty S by' room ws fl) k=at0 fl k+(stB S by' w).sg*room)/\((∀w∈ws,(stB S by' w).ed.toNat≠k)->at0 (xty S by' room ws fl) k=at0 fl k)
 |[],fl,_,_,k=>⟨λw hw=>by simp at hw,λ_=>rfl⟩
 |v::ws,fl,h,hp,k=>by
  have e:xty S by' room (v::ws) fl=xty S by' room ws (fl.set (stB S by' v).ed.toNat (at0 fl (stB S by' v).ed.toNat+(stB S by' v).sg*room)):=rfl
  obtain⟨h1,h2⟩:=x1gn.mp hp
  have hv:=h v (x1f7 ..)
  obtain⟨i1,i2⟩:=x189 S by' room ws (fl.set (stB S by' v).ed.toNat (at0 fl (stB S by' v).ed.toNat+(stB S by' v).sg*room)) (λw hw=>by simpa using h w (x1f6 _ hw)) h2 k
  rw[e]
  rw[xt0 hv]at i1 i2
  refine⟨λw hw hk=>?_,λhk=>?_⟩
  .rcases x1fe.mp hw with rfl|hw
   .rw[i2 (λx hx=>by rw[<-hk];exact λy=>h1 x hx y.symm),x1ez hk.symm,hk]
   .rw[i1 w hw hk,x1ey (by rw[<-hk];exact λy=>h1 w hw y.symm)]
  .rw[i2 (λw hw=>hk w (x1f6 _ hw)),x1ey (λy=>hk v (x1f7 ..) y.symm)]
theorem x18a:∀(l:List Edge) (fl:List Int) (k:Nat) (x:Int),k<l.length->fl.length=l.length ->
 valF (l.zip (fl.set k x))=valF (l.zip fl)+(x-at0 fl k)*(edgeAt l k).jump
 |e::l,f::fl,0,x,hk,hl=>by
  simp only[x1ht,x1i8,valF,show edgeAt (e::l) 0=e from rfl,show at0 (f::fl) 0=f from rfl]
  grind
 |e::l,f::fl,k+1,x,hk,hl=>by
  have:=x18a l fl k x (by simpa using hk) (by simpa using hl)
  simp only[x1i4,x1i8,valF,show edgeAt (e::l) (k+1)=edgeAt l k from rfl,show at0 (f::fl) (k+1)=at0 fl k from rfl,this]
  omega
 |[],_,k,x,hk,_=>by simp at hk
 |_::_,[],k,x,_,hl=>by simp at hl
theorem x18b{l:List Edge}{fl0:List Int}{S:List Stp}{by':List Int}(room:Int)(v:Nat):∀(k a:Nat) (fl:List Int),fl.length=l.length ->
 (∀m,m<k->StpOf l fl0 (stB S by' (itr (prN S by') m a))/\(stB S by' (itr (prN S by') m a)).to=(itr (prN S by') m a:Nat)/\(stB S by' (itr (prN S by') m a)).fr=(prN S by' (itr (prN S by') m a):Nat)) ->
 netF v (l.zip (xty S by' room (tl (prN S by') k a) fl))=netF v (l.zip fl)+room*(ind (a=v)-ind (itr (prN S by') k a=v)) /\
 valF (l.zip (xty S by' room (tl (prN S by') k a) fl))=valF (l.zip fl)+room*gsum S by' (tl (prN S by') k a)
 |0,a,fl,hl,_=>⟨by show _=_+room*(ind (a=v)-ind (a=v));rw[Int.sub_self,Int.mul_zero,Int.add_zero];rfl,by simp[xty,tl,gsum]⟩
 |k+1,a,fl,hl,h=>by
  obtain⟨⟨j,hj,he,hr,hc⟩,ht,hf⟩:=h 0 (by omega)
  have ht:(stB S by' a).to=(a:Nat):=ht
  have hf:(stB S by' a).fr=(prN S by' a:Nat):=hf
  have he:(stB S by' a).ed=(j:Nat):=he
  obtain⟨i1,i2⟩:=x18b room v k (prN S by' a) (fl.set (stB S by' a).ed.toNat (at0 fl (stB S by' a).ed.toNat+(stB S by' a).sg*room)) (by simpa using hl) (λm hm=>h (m+1) (by omega))
  have e:xty S by' room (tl (prN S by') (k+1) a) fl=xty S by' room (tl (prN S by') k (prN S by' a)) (fl.set (stB S by' a).ed.toNat (at0 fl (stB S by' a).ed.toNat+(stB S by' a).sg*room)):=rfl
  have e2:itr (prN S by') (k+1) a=itr (prN S by') k (prN S by' a):=rfl
  have e3:gsum S by' (tl (prN S by') (k+1) a)=(stB S by' a).gain+gsum S by' (tl (prN S by') k (prN S by' a)):=rfl
  rw[e,e2,e3,i1,i2,he,x1f1,x14a v l fl j _ hj hl,x18a l fl j _ hj hl]
  simp only[itr]at hc
  rcases hc with ⟨a1,a2,a3,a4,a5⟩|⟨a1,a2,a3,a4,a5⟩
  .rw[show(edgeAt l j).to.toNat=a by omega,show(edgeAt l j).fr.toNat=prN S by' a by omega,a3,a4]
   constructor<;>grind
  .rw[show(edgeAt l j).to.toNat=prN S by' a by omega,show(edgeAt l j).fr.toNat=a by omega,a3,a4]
   constructor<;>grind
theorem grow_ok{J:Int}{n:Nat}{l:List Edge}{fl:List Int}(hSl:Slim J n l)(hl:fl.length=l.length)(hF:Feas n (l.zip fl)){r i:Nat}{b:BF}{ta:Nat->Nat}(h:BFI J n (xrz l fl) r i b ta){x d:Nat}(hc:Cyc n (xrz l fl) b.by' b.far ta x d){room:Int}(hr0:0<room)(hr:∀w∈tl (prN (xrz l fl) b.by') d x,room<=(stB (xrz l fl) b.by' w).room) :
 Feas n (l.zip (xty (xrz l fl) b.by' room (tl (prN (xrz l fl) b.by') d x) fl))/\valF (l.zip fl)<valF (l.zip (xty (xrz l fl) b.by' room (tl (prN (xrz l fl) b.by') d x) fl)):=by
 have hS:=x14b (fl:=fl) hSl
 have hG:=gain_pos hS h hc
 obtain⟨S,hSe⟩:∃S,S=xrz l fl:=⟨_,rfl⟩
 rw[<-hSe]at hS h hc hr hG ⊢
 have hmem:∀w∈tl (prN S b.by') d x,w<n/\0<ta w:=λw hw=>by
  obtain⟨j,hj,rfl⟩:=x11q hw
  exact hc.good j
 have hof:∀{w:Nat},w<n->0<ta w->StpOf l fl (stB S b.by' w):=λ{w} h1 h2=>by
  have:=(h.step hS h1 h2).1
  rw[hSe]at this ⊢
  exact x11p this
 have hpw:(tl (prN S b.by') d x).Pairwise (λv w=>(stB S b.by' v).ed.toNat≠(stB S b.by' w).ed.toNat):=by
  refine List.Pairwise.imp_of_mem ?_ (tl_nodup hc)
  intro v w hv hw hne
  obtain⟨v1,v2⟩:=hmem v hv
  obtain⟨w1,w2⟩:=hmem w hw
  obtain⟨s1,s2,s3,s4,s5,s6⟩:=h.step hS v1 v2
  obtain⟨u1,u2,u3,u4,u5,u6⟩:=h.step hS w1 w2
  obtain⟨j,hj,je,jr,jc⟩:=hof v1 v2
  obtain⟨k,hk,ke,kr,kc⟩:=hof w1 w2
  rw[je,ke]
  intro e
  have e:j=k:=by omega
  subst e
  have ht:ta v≠ta w:=λe=>hne (h.inj _ _ e v2)
  rcases jc with ⟨a1,a2,a3,a4,a5⟩|⟨a1,a2,a3,a4,a5⟩<;>rcases kc with ⟨b1,b2,b3,b4,b5⟩|⟨b1,b2,b3,b4,b5⟩
  .exact hne (by omega)
  .have e1:prN S b.by' v=w:=by omega
   have e2:prN S b.by' w=v:=by omega
   rw[e1]at s5 s6
   rw[e2]at u5 u6
   rcases Nat.lt_or_gt_of_ne ht with g|g
   .have:=s6 g;omega
   .have:=u6 g;omega
  .have e1:prN S b.by' v=w:=by omega
   have e2:prN S b.by' w=v:=by omega
   rw[e1]at s5 s6
   rw[e2]at u5 u6
   rcases Nat.lt_or_gt_of_ne ht with g|g
   .have:=s6 g;omega
   .have:=u6 g;omega
  .exact hne (by omega)
 have hlt:∀w∈tl (prN S b.by') d x,(stB S b.by' w).ed.toNat<fl.length:=λw hw=>by
  obtain⟨w1,w2⟩:=hmem w hw
  obtain⟨k,hk,ke,-⟩:=hof w1 w2
  omega
 have hgn:=λv=>x18b (l:=l) (fl0:=fl) (S:=S) (by':=b.by') room v d x fl hl (λm hm=>by
  obtain⟨g1,g2⟩:=hc.good m
  obtain⟨s1,s2,s3,-⟩:=h.step hS g1 g2
  exact⟨hof g1 g2,s2,s3⟩)
 have hGl:(xty S b.by' room (tl (prN S b.by') d x) fl).length=l.length:=by rw[x14c];exact hl
 refine⟨⟨λy hy=>?_,λv hv=>?_,xy4 hSl.ed hGl⟩,?_⟩
 .obtain⟨k,hk,rfl⟩:=(xtq hGl).mp hy
  have hcap:=hF.cap _ ((xtq hl).mpr ⟨k,hk,rfl⟩)
  obtain⟨g1,g2⟩:=x189 S b.by' room _ fl hlt hpw k
  simp only at hcap ⊢
  by_cases c:∃w∈tl (prN S b.by') d x,(stB S b.by' w).ed.toNat=k
  .obtain⟨w,hw,e⟩:=c
   rw[g1 w hw e]
   obtain⟨w1,w2⟩:=hmem w hw
   obtain⟨j,hj,je,jr,jc⟩:=hof w1 w2
   have hrw:=hr w hw
   obtain rfl:j=k:=by omega
   rcases jc with ⟨a1,a2,a3,a4,a5⟩|⟨a1,a2,a3,a4,a5⟩
   .rw[a3];omega
   .rw[a3];omega
  .rw[g2 (λw hw e=>c ⟨w,hw,e⟩)]
   exact hcap
 .rw[(hgn v).1,hF.cons v hv,hc.back]
  omega
 .rw[(hgn 0).2]
  have:=Int.mul_pos hr0 hG
  omega
theorem far_cs{l:List Edge}{fl far:List Int}(hl:fl.length=l.length)(h:∀j,j<(xrz l fl).length->at0 far (stpAt (xrz l fl) j).fr.toNat+(stpAt (xrz l fl) j).gain<=at0 far (stpAt (xrz l fl) j).to.toNat) :
 CS (λv=>-at0 far v) (l.zip fl):=by
 rw[cs_iff]
 intro u v c ha
 obtain⟨s,hs,e1,e2,e3⟩:=x181 hl ha
 obtain⟨j,hj,e⟩:=x1hu.mp hs
 have:=h j hj
 rw[xxd hj,e,e1,e2,e3]at this
 omega
end Go.Ix
