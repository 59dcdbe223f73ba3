import Derived.Test.YtpeakdjfagbpcaaGreatWg9
import Derived.Test.YtpeakdjfagbpcaaGreatWg2
set_option linter.unusedSimpArgs false
set_option linter.unusedVariables false
namespace Go.Ix
open Go.Proofs
theorem x17s{k:Nat}{l:List Edge}(hk:k<l.length)(v:Int):((l.map f0M).take k++List.replicate (l.length-k) 0).set k v=(l.map f0M).take k++v::List.replicate (l.length-(k+1)) 0:=by
 have h:((l.map f0M).take k).length=k:=by simp;omega
 rw[x1j0 _ _ (by omega),h,x1h3,show l.length-k=(l.length-(k+1))+1 by omega,x1ii,x1ht]
theorem x145{k:Nat}{l:List Edge}(hk:k<l.length){e:Edge}(he:l[k]=e):(l.map f0M).take (k+1)++List.replicate (l.length-(k+1)) 0=(l.map f0M).take k++f0M e::List.replicate (l.length-(k+1)) 0:=by
 rw[x1g3 (by simpa using hk)]
 simp[he]
theorem x1bi{k:Nat}{l:List Edge}(hk:k<l.length):(l.map f0M).take k++List.replicate (l.length-k) 0=(l.map f0M).take k++(0:Int)::List.replicate (l.length-(k+1)) 0:=by
 rw[show l.length-k=(l.length-(k+1))+1 by omega,x1ii]
theorem ns_loop(d:Nat)(hs:FHs){u n:Nat}{ev:AV}{l:List Edge}(hev:Sl Edge.c ev l)(hl:l.length<=600)(hn:n<=200)(hed:∀e∈l,EdgeIn n e/\e.fr≠e.to):∀(suf:List Edge) (k j:Nat) (m:Mem) (fc:Nat),l.drop k=suf->suf.length<j->k<=l.length->NSInv u fc n ev l k m ->
 ∃m',x1w (xr4 d) hs u j (.ptr (u,21,25) 0 0) ev (I l.length) (I k) m fc=some (.ptr (u,21,25) 0 0,m')/\(∃fc',NSInv u fc' n ev l l.length m')/\m'.next=m.next:=by
 intro suf
 induction suf with
 |nil=>
  intro k j m fc hd hj hk hi
  obtain⟨j,rfl⟩:∃i,j=i+1:=⟨j-1,by simp at hj;omega⟩
  have hke:k=l.length:=by have:=x1g2.mp hd;omega
  subst hke
  refine⟨m,?_,⟨fc,hi⟩,rfl⟩
  simp only[x1w]
  unfold xbz
  simp[xjd]
 |cons e r ih=>
  intro k j m fc hd hj hk hi
  obtain⟨j,rfl⟩:∃i,j=i+1:=⟨j-1,by simp at hj;omega⟩
  obtain⟨hk,hke,hd⟩:=xtf hd
  have hk':(k:Int)<(l.length:Int):=by omega
  have ix:=hev.ix Edge.len hk
  have ld:=xsy (m:=m) Edge.len (by omega) hk
  rw[hke]at ld
  have hee:=(hed e (hke▸x1fg hk)).1
  obtain⟨f0,f1,t0,t1,j0,j1,w0,w1⟩:=hee
  obtain⟨m1,hm1⟩:∃m1:Mem,m1=(m.new (u,fc+1+3,5) (.row [I 0,I 0,I 0,I 0] 0 false)).set (u,fc+1+3,5) (.row e.c 0 false):=⟨_,rfl⟩
  have q1:∀id:Id,id≠(u,fc+1+3,5)->m1.get id=m.get id:=λid hid=>by rw[hm1,Mem.get_set,x1ey hid,Mem.get_new,x1ey hid]
  have hE:m1.get (u,fc+1+3,5)=some (.row [I e.fr,I e.to,I e.jump,I e.wt] 0 false):=by rw[hm1];simp[Edge.c]
  have hn1:m1.next=m.next:=by rw[hm1];simp
  have main:∀(m2:Mem) (g:Nat),fc<=g->(∀id:Id,id≠(u,7,11)->m2.get id=m1.get id)->m2.next=m1.next->m2.get (u,7,11)=some (.row (((l.map f0M).take (k+1)++List.replicate (l.length-(k+1)) 0).flatMap intE) 0 false) ->
   ∃m',x3t (xr4 d) hs u (x1w (xr4 d) hs u j) (.ptr (u,21,25) 0 0) (I k) (.ptr (u,fc+1+3,5) 0 0) ev (I l.length) (I k) m2 g=some (.ptr (u,21,25) 0 0,m')/\(∃fc',NSInv u fc' n ev l l.length m')/\m'.next=m.next:=by
   intro m2 g hg q2 n2 hf2
   obtain⟨cells,ha,hcl,hA⟩:=hi.a
   obtain⟨m',h1,h2,h3⟩:=ns_tail d hs hl hn hed hk hke (x1w (xr4 d) hs u j) (fE:=fc+1+3) (fc:=g) (m:=m2) (cells:=cells)
    (by rw[q2 _ (by simp),q1 _ (by simp)];exact hi.s) hf2 (by rw[q2 _ (by simp),q1 _ (by simp)];exact hi.t) (by rw[q2 _ (by simp),q1 _ (by simp)];exact hi.x)
    (by rw[q2 _ (by simp),q1 _ (by simp)];exact ha) hcl (hA.frame (λid hid=>by rw[q2 _ (by rintro rfl;rcases hid.2.1 with h|h<;>simp at h),q1 _ (by rintro rfl;rcases hid.2.1 with h|h<;>simp at h)]) hg)
    (by rw[n2,hn1];exact hi.nx) (by rw[q2 _ (by simp)];exact hE)
   obtain⟨m'',e1,e2,e3⟩:=ih (k+1) j m' (g+76) hd (by simp at hj;omega) (by omega) h2
   exact⟨m'',by rw[h1];exact e1,e2,by rw[e3,h3,n2,hn1]⟩
  have g1s:m1.get (u,21,25)=some (.row [I n,ev,srI (u,7,11) l.length,srI (u,11,15) n,srI (u,15,19) n,srI (u,19,23) n] 0 false):=by rw[q1 _ (by simp)];exact hi.s
  obtain⟨fl,hfl⟩:∃fl,fl=(l.map f0M).take k++List.replicate (l.length-k) 0:=⟨_,rfl⟩
  have g1f:m1.get (u,7,11)=some (.row (fl.flatMap intE) 0 false):=by rw[q1 _ (by simp),hfl];exact hi.f
  have hlk:k<fl.length:=by rw[hfl];simp;omega
  have ifk:sIx 1 (srI (u,7,11) l.length) (I k)=some (.ptr (u,7,11) 0 k):=by simpa using xs7 (id:=(u,7,11)) (n:=l.length) (k:=(k:Int)) (by omega) (by omega)
  simp only[x1w]
  unfold xbz xjg
  simp only[xxw]
  simp(disch:=omega) [hk',ix,ld,Edge.c]
  rw[show(m.new (u,fc+1+3,5) (.row [I 0,I 0,I 0,I 0] 0 false)).set (u,fc+1+3,5) (.row [I e.fr,I e.to,I e.jump,I e.wt] 0 false)=m1 from hm1.symm]
  unfold xjf
  by_cases c1:0<e.jump
  .simp(disch:=omega) [hE,c1,sNil,g1s,ifk,g1f,xtm hlk]
   refine main _ _ ?_ (λid hid=>?_) ?_ ?_
   .omega
   .rw[Mem.get_set,x1ey hid]
   .simp
   rw[x145 hk hke,<-x17s hk,<-hfl,show f0M e=e.wt by unfold f0M;rw[x1ez c1]]
   simp
  .by_cases c2:e.jump<0
   .simp(disch:=omega) [hE,c1,c2,sNil,g1s,ifk,g1f,xrc,xtm hlk]
    refine main _ _ ?_ (λid hid=>?_) ?_ ?_
    .omega
    .rw[Mem.get_set,x1ey hid]
    .simp
    rw[x145 hk hke,<-x17s hk,<-hfl,show f0M e=-e.wt by unfold f0M;rw[x1ey c1,x1ez c2]]
    simp
   .simp(disch:=omega) [hE,c1,c2]
    refine main _ _ (by omega) (λid hid=>rfl) rfl ?_
    rw[g1f,hfl,x1bi hk,x145 hk hke,show f0M e=0 by unfold f0M;rw[x1ey c1,x1ey c2]]
theorem z_solver:xkq=[I 0,nilS,nilS,nilS,nilS,nilS]:=by kernel_rfl
theorem mkSl_sl{R:Type}{n:Nat}{id:Id}{m:Mem}(k:AV->Mem->Option R)(hn:n<=200):xsh [nilS] 1 24 (I n) (I n) id m k=k (srI id n) (m.new id (.row (List.replicate n nilS) 0 false)):=by
 simp only[xsh,asI]
 rw[x1ez ⟨by omega,x1ft _,by omega,by omega⟩]
 have:xsc [nilS] (((n:Int).toNat)*1)=List.replicate n nilS:=by
  simp only[xsc,x1f1,x1gz]
  apply x1hr
  .simp
  .intro i h1 h2
   simp[Nat.mod_one]
 rw[this]
 simp
theorem x1bj(d:Nat){n:Nat}{ev:AV}{l:List Edge}(hev:Sl Edge.c ev l)(hl:l.length<=600)(hn:n<=200)(hed:∀e∈l,EdgeIn n e/\e.fr≠e.to)(u:Nat) :
 ∃m',xr4 (d+1) [] x31 [.agg [I n,ev]] ⟨[],u⟩=some (.ptr (u,21,25) 0 0,m')/\SolMem u n ev l (l.map f0M) (List.replicate n 0) (ex0M n l) m'/\m'.next=u+1:=by
 have hel:=hev.len xua
 have ho:=hev.one
 have hc:=hev.cells
 obtain⟨m1,hm1⟩:∃m1,m1=(⟨[],u+1⟩:Mem).new (u,0,1) (.row [I n,ev] 0 false):=⟨_,rfl⟩
 obtain⟨m2,hm2⟩:∃m2,m2=m1.new (u,7,11) (.row ((List.replicate l.length (0:Int)).flatMap intE) 0 false):=⟨_,rfl⟩
 obtain⟨m3,hm3⟩:∃m3,m3=m2.new (u,11,15) (.row ((List.replicate n (0:Int)).flatMap intE) 0 false):=⟨_,rfl⟩
 obtain⟨m4,hm4⟩:∃m4,m4=m3.new (u,15,19) (.row ((List.replicate n (0:Int)).flatMap intE) 0 false):=⟨_,rfl⟩
 obtain⟨m5,hm5⟩:∃m5,m5=m4.new (u,19,23) (.row (List.replicate n nilS) 0 false):=⟨_,rfl⟩
 obtain⟨m6,hm6⟩:∃m6,m6=m5.new (u,21,25) (.row [I n,ev,srI (u,7,11) l.length,srI (u,11,15) n,srI (u,15,19) n,srI (u,19,23) n] 0 false):=⟨_,rfl⟩
 have h0:NSInv u 28 n ev l 0 m6:=by
  refine⟨?_,?_,?_,?_,⟨List.replicate n nilS,?_,by simp,⟨λ_=>(0,0,0),λv hv=>Or.inl ⟨by simp,by rw[x1gi];rfl⟩,λv w hv hw n1=>absurd (by rw[x1gi];rfl) n1⟩⟩,by rw[hm6,hm5,hm4,hm3,hm2,hm1];simp only[Mem.next_new];omega⟩
  .rw[hm6];simp[Mem.get_new]
  .rw[hm6,hm5,hm4,hm3,hm2];simp[Mem.get_new]
  .rw[hm6,hm5,hm4,hm3];simp[Mem.get_new]
  .rw[hm6,hm5,hm4];simp[Mem.get_new,ex0M]
  .rw[hm6,hm5];simp[Mem.get_new]
 obtain⟨m',h1,⟨fc',hI⟩,h3⟩:=ns_loop d [] hev hl hn hed l 0 NN m6 28 rfl (by rw[xrg];omega) (by omega) h0
 obtain⟨cells,ha,hcl,hA⟩:=hI.a
 have hat:l.take l.length=l:=x1f8 (x1f3 _)
 rw[hat]at hA
 refine⟨m',?_,⟨hI.s,?_,hI.t,by have:=hI.x;rwa[hat]at this,⟨cells,ha,hcl,λv hv=>?_⟩,by simp,by simp,x144 n l⟩,by rw[h3,hm6,hm5,hm4,hm3,hm2,hm1];simp only[Mem.next_new]⟩
 .rw[xn9]
  unfold xfa xc0 xjh
  have hb:∀x y z w,x.cells=[x]->y.cells=[y]->z.cells=[z]->w.cells=[w]->xrr [I 0,nilS,nilS,nilS,nilS,nilS] [(0,2,.agg [I n,ev]),(2,1,x),(3,1,y),(4,1,z),(5,1,w)]=some (.agg [I n,ev,x,y,z,w]):=by
   intro x y z w h1 h2 h3 h4
   simp[xrr,xsd,h1,h2,h3,h4]
  have g1:m1.get (u,0,1)=some (.row [I n,ev] 0 false):=by rw[hm1];simp
  have g2:m2.get (u,0,1)=some (.row [I n,ev] 0 false):=by rw[hm2];simp[Mem.get_new,g1]
  have g3:m3.get (u,0,1)=some (.row [I n,ev] 0 false):=by rw[hm3];simp[Mem.get_new,g2]
  have g4:m4.get (u,0,1)=some (.row [I n,ev] 0 false):=by rw[hm4];simp[Mem.get_new,g3]
  have g6:m6.get (u,0,1)=some (.row [I n,ev] 0 false):=by rw[hm6,hm5];simp[Mem.get_new,g4]
  have mkn:∀(id:Id) (m:Mem) (k:AV->Mem->Option (AV×Mem)),xsh [I 0] 1 8 (I n) (I n) id m k=k (srI id n) (m.new id (.row ((List.replicate n (0:Int)).flatMap intE) 0 false)):=λid m k=>by rw[xxy (by omega) (by omega),x1f1]
  have mkl:∀(id:Id) (m:Mem) (k:AV->Mem->Option (AV×Mem)),xsh [I 0] 1 8 (I l.length) (I l.length) id m k=k (srI id l.length) (m.new id (.row ((List.replicate l.length (0:Int)).flatMap intE) 0 false)):=λid m k=>by rw[xxy (by omega) (by omega),x1f1]
  simp only[xwd,AV.cells,x1ga,x1gq,ho,show(I (n:Int)).one=true from rfl,x1gr,xre,xso,xzx,z_solver]
  rw[<-hm1]
  simp only[xrh,xs5,g1,xri,x1f4,xre,x1f0,x1f9,x1fk,rd_f,rd_2,xr9,hel,mkl]
  rw[<-hm2]
  simp only[xrh,xs5,g2,xri,x1f4,xre,x1f0,x1f9,x1fk,rd_f,xr9,mkn]
  rw[<-hm3]
  simp only[xrh,xs5,g3,xri,x1f4,xre,x1f0,x1f9,x1fk,rd_f,xr9,mkn]
  rw[<-hm4]
  simp only[xrh,xs5,g4,xri,x1f4,xre,x1f0,x1f9,x1fk,rd_f,xr9,mkSl_sl _ hn]
  rw[<-hm5,hb _ _ _ _ rfl rfl rfl rfl]
  simp only[xr9,AV.cells,x1ga,x1gq,ho,show(I (n:Int)).one=true from rfl,show ∀id k,(srI id k).one=true from λ_ _=>rfl,x1gr,xre]
  rw[<-hm6]
  simp[xr6,disj,tR]
  simp only[xrh,xs5,g6,xri,x1f4,xre,x1f0,x1f9,x1fk,rd_f,xr9,hel]
  exact h1
 .have:=hI.f
  rw[x1h3,List.replicate_zero,x1g5,x1f8 (by simp)]at this
  exact this
 .obtain⟨ids,e1,e2⟩:=hA.sh
  rcases e1 v hv with ⟨a,b⟩|⟨ver,a,b,c,-⟩
  .exact Or.inl ⟨a,b⟩
  .exact Or.inr ⟨ids v,ver,⟨c.1,c.2.1⟩,a,b⟩
theorem mul_in{a b:Int}{x y:Nat}(h1:a.natAbs<=x)(h2:b.natAbs<=y):-((x*y:Nat):Int)<=a*b/\a*b<=((x*y:Nat):Int):=by
 have:=x1h1 h1 h2
 rw[<-Int.natAbs_mul]at this
 omega
def sumN:Nat->(Nat->Int)->Int
 |0,_=>0
 |n+1,g=>sumN n g+g n
theorem x146{n:Nat}{g h:Nat->Int}(H:∀k,k<n->g k=h k):sumN n g=sumN n h:=by
 induction n with
 |zero=>rfl
 |succ n ih=>simp only[sumN];rw[ih λk hk=>H k (by omega),H n (by omega)]
theorem xyv{n:Nat}{g:Nat->Int}(H:∀k,k<n->g k=0):sumN n g=0:=by
 induction n with
 |zero=>rfl
 |succ n ih=>simp only[sumN];rw[ih λk hk=>H k (by omega),H n (by omega)];rfl
theorem xzz{n:Nat}{g h:Nat->Int}:sumN n (λk=>g k+h k)=sumN n g+sumN n h:=by
 induction n with
 |zero=>rfl
 |succ n ih=>simp only[sumN];rw[ih];omega
theorem x1bk{n:Nat}{g:Nat->Int}(H:∀k,k<n->0<=g k):0<=sumN n g:=by
 induction n with
 |zero=>simp[sumN]
 |succ n ih=>simp only[sumN];have:=ih λk hk=>H k (by omega);have:=H n (by omega);omega
theorem sumN_le{n:Nat}{g h:Nat->Int}(H:∀k,k<n->g k<=h k):sumN n g<=sumN n h:=by
 induction n with
 |zero=>simp[sumN]
 |succ n ih=>simp only[sumN];have:=ih λk hk=>H k (by omega);have:=H n (by omega);omega
theorem sumN_lt{n:Nat}{g h:Nat->Int}(H:∀k,k<n->g k<=h k){j:Nat}(hj:j<n)(hl:g j<h j):sumN n g<sumN n h:=by
 induction n with
 |zero=>omega
 |succ n ih=>
  simp only[sumN]
  have h1:=H n (by omega)
  by_cases e:j=n
  .subst e
   have:=sumN_le (n:=j) (g:=g) (h:=h) λk hk=>H k (by omega)
   omega
  .have:=ih (λk hk=>H k (by omega)) (by omega)
   omega
theorem x100{n v:Nat}(h:v<n)(c:Int)(p:Nat->Int):sumN n (λk=>if v=k then p k*c else 0)=p v*c:=by
 induction n with
 |zero=>omega
 |succ n ih=>
  simp only[sumN]
  by_cases e:v=n
  .subst e
   rw[xyv (λk hk=>x1ey (by omega)),x1ez rfl];omega
  .rw[ih (by omega),x1ey e];omega
def exF(p:Nat->Int)(e:Edge):Int:=p e.to.toNat-p e.fr.toNat+e.jump
def xti(p:Nat->Int):List Edge->Int
 |[]=>0
 |e::r=>e.wt*((exF p e).natAbs:Int)+xti p r
def valF:List (Edge×Int)->Int
 |[]=>0
 |x::r=>x.2*x.1.jump+valF r
def netF(v:Nat):List (Edge×Int)->Int
 |[]=>0
 |x::r=>(if x.1.to.toNat=v then x.2 else 0)-(if x.1.fr.toNat=v then x.2 else 0)+netF v r
def gapF(p:Nat->Int):List (Edge×Int)->Int
 |[]=>0
 |x::r=>x.1.wt*((exF p x.1).natAbs:Int)-x.2*exF p x.1+gapF p r
def Cap(z:List (Edge×Int)):Prop:=∀x∈z,-x.1.wt<=x.2/\x.2<=x.1.wt
def Ends(n:Nat)(z:List (Edge×Int)):Prop:=∀x∈z,x.1.fr.toNat<n/\x.1.to.toNat<n
def CS(p:Nat->Int)(z:List (Edge×Int)):Prop:=∀x∈z,(x.2<x.1.wt->exF p x.1<=0)/\(-x.1.wt<x.2->0<=exF p x.1)
structure Feas (n:Nat) (z:List (Edge×Int)):Prop where
 cap:Cap z
 cons:∀v,v<n->netF v z=0
 ends:Ends n z
theorem x11n(n:Nat)(p:Nat->Int):∀z:List (Edge×Int),Ends n z->sumN n (λv=>p v*netF v z)=valF z*0+(z.foldr (λx s=>x.2*(p x.1.to.toNat-p x.1.fr.toNat)+s) 0)
 |[],_=>by simp only[netF,Int.mul_zero,List.foldr_nil,valF];rw[xyv (λ_ _=>rfl)];rfl
 |x::r,h=>by
  have ih:=x11n n p r (λy hy=>h y (x1f6 _ hy))
  obtain⟨h1,h2⟩:=h x (x1f7 ..)
  have e:∀v,p v*netF v (x::r)=(if x.1.to.toNat=v then p v*x.2 else 0)+((if x.1.fr.toNat=v then p v*(-x.2)else 0)+p v*netF v r):=by
   intro v
   simp only[netF]
   split<;>split<;>grind
  rw[x146 (λk _=>e k),xzz,xzz,x100 h1,x100 h2,ih]
  simp only[x1iz]
  grind
theorem x17t(p:Nat->Int):∀z:List (Edge×Int),xti p (z.map Prod.fst)=gapF p z+valF z+z.foldr (λx s=>x.2*(p x.1.to.toNat-p x.1.fr.toNat)+s) 0
 |[]=>rfl
 |x::r=>by
  have ih:=x17t p r
  simp only[x1fl,xti,gapF,valF,x1iz,ih,exF]
  grind
theorem x17u{n:Nat}{z:List (Edge×Int)}(h:Feas n z)(p:Nat->Int):xti p (z.map Prod.fst)=gapF p z+valF z:=by
 have h1:=x17t p z
 have h2:=x11n n p z h.ends
 rw[xyv (λk hk=>by rw[h.cons k hk];simp)]at h2
 omega
theorem gap1{w f e:Int}(h1:-w<=f)(h2:f<=w):0<=w*(e.natAbs:Int)-f*e:=by
 rcases Int.le_total 0 e with h|h
 .rw[Int.natAbs_of_nonneg h]
  have:=x1jn h2 h
  omega
 .rw[show(e.natAbs:Int)=-e by omega]
  have:=x1jn (show -f<=w by omega) (show 0<=-e by omega)
  grind
theorem gap1_zero{w f e:Int}(h1:-w<=f)(h2:f<=w):w*(e.natAbs:Int)-f*e=0↔(f<w->e<=0)/\(-w<f->0<=e):=by
 rcases Int.lt_trichotomy e 0 with h|h|h
 .rw[show(e.natAbs:Int)=-e by omega,show w*-e-f*e=(w+f)*-e by grind,Int.mul_eq_zero]
  constructor
  .rintro(h3|h3)
   .exact⟨λ_=>by omega,λ_=>by omega⟩
   .omega
  .intro⟨_,h4⟩
   by_cases c:-w<f
   .have:=h4 c;omega
   .left;omega
 .subst h;simp
 .rw[Int.natAbs_of_nonneg (by omega),show w*e-f*e=(w-f)*e by grind,Int.mul_eq_zero]
  constructor
  .rintro(h3|h3)
   .exact⟨λ_=>by omega,λ_=>by omega⟩
   .omega
  .intro⟨h4,_⟩
   by_cases c:f<w
   .have:=h4 c;omega
   .left;omega
theorem x147(p:Nat->Int):∀{z:List (Edge×Int)},Cap z->0<=gapF p z
 |[],_=>by simp[gapF]
 |x::r,h=>by
  have h1:=x147 p (z:=r) λy hy=>h y (x1f6 _ hy)
  have h2:=h x (x1f7 ..)
  have h3:=gap1 (e:=exF p x.1) h2.1 h2.2
  simp only[gapF];omega
theorem x17v(p:Nat->Int):∀{z:List (Edge×Int)},Cap z->(gapF p z=0↔CS p z)
 |[],_=>by simp[gapF,CS]
 |x::r,h=>by
  have hr:Cap r:=λy hy=>h y (x1f6 _ hy)
  have ih:=x17v p hr
  have h0:=x147 p hr
  have h2:=h x (x1f7 ..)
  have h3:=gap1 (e:=exF p x.1) h2.1 h2.2
  have h4:=gap1_zero (e:=exF p x.1) h2.1 h2.2
  have e:CS p (x::r)↔((x.2<x.1.wt->exF p x.1<=0)/\(-x.1.wt<x.2->0<=exF p x.1))/\CS p r:=by
   simp[CS]
  rw[e,<-ih,<-h4]
  simp only[gapF];omega
theorem weak{n:Nat}{z:List (Edge×Int)}(h:Feas n z)(p:Nat->Int):valF z<=xti p (z.map Prod.fst):=by
 have:=x17u h p
 have:=x147 p h.cap
 omega
theorem tight{n:Nat}{z:List (Edge×Int)}(h:Feas n z)(p:Nat->Int):xti p (z.map Prod.fst)=valF z↔CS p z:=by
 rw[<-x17v p h.cap]
 have:=x17u h p
 omega
theorem val_le{n:Nat}{z y:List (Edge×Int)}{p:Nat->Int}(hz:Feas n z)(hy:Feas n y)(he:z.map Prod.fst=y.map Prod.fst)(hc:CS p z):valF y<=valF z:=by
 have h1:=(tight hz p).mpr hc
 have h2:=weak hy p
 rw[he]at h1
 omega
theorem cs_any{n:Nat}{z y:List (Edge×Int)}{p q:Nat->Int}(hz:Feas n z)(hy:Feas n y)(he:z.map Prod.fst=y.map Prod.fst)(hc:CS p z)(hd:CS q y):CS p y:=by
 have h1:=val_le hz hy he hc
 have h2:=val_le hy hz he.symm hd
 have h3:=(tight hz p).mpr hc
 rw[<-tight hy p,<-he]
 omega
def Arc(z:List (Edge×Int))(u v:Nat)(c:Int):Prop:=∃x∈z,(x.2<x.1.wt/\u=x.1.fr.toNat/\v=x.1.to.toNat/\c=-x.1.jump)\/(-x.1.wt<x.2/\u=x.1.to.toNat/\v=x.1.fr.toNat/\c=x.1.jump)
inductive Way (z:List (Edge×Int)) (u:Nat):Nat->Int->Prop
 |nil:Way z u u 0
 |cons {v w:Nat} {c d:Int}:Way z u v c->Arc z v w d->Way z u w (c+d)
theorem cs_iff{p:Nat->Int}{z:List (Edge×Int)}:CS p z↔∀u v c,Arc z u v c->p v-p u<=c:=by
 constructor
 .rintro h u v c ⟨x,hx,⟨h1,rfl,rfl,rfl⟩|⟨h1,rfl,rfl,rfl⟩⟩
  .have:=(h x hx).1 h1;unfold exF at this;omega
  .have:=(h x hx).2 h1;unfold exF at this;omega
 .intro h x hx
  refine⟨λh1=>?_,λh1=>?_⟩
  .have:=h _ _ _ ⟨x,hx,Or.inl ⟨h1,rfl,rfl,rfl⟩⟩;unfold exF;omega
  .have:=h _ _ _ ⟨x,hx,Or.inr ⟨h1,rfl,rfl,rfl⟩⟩;unfold exF;omega
theorem Way.le{p:Nat->Int}{z:List (Edge×Int)}(h:CS p z){u v:Nat}{c:Int}(hw:Way z u v c):p v-p u<=c:=by
 induction hw with
 |nil=>omega
 |cons _ ha ih=>have:=cs_iff.mp h _ _ _ ha;omega
theorem Arc.lt{n:Nat}{z:List (Edge×Int)}(h:Ends n z){u v:Nat}{c:Int}(ha:Arc z u v c):u<n/\v<n:=by
 obtain⟨x,hx,⟨h1,rfl,rfl,rfl⟩|⟨h1,rfl,rfl,rfl⟩⟩:=ha
 .exact h x hx
 .exact⟨(h x hx).2,(h x hx).1⟩
theorem Way.lt{n:Nat}{z:List (Edge×Int)}(h:Ends n z){u v:Nat}{c:Int}(hu:u<n)(hw:Way z u v c):v<n:=by
 cases hw with
 |nil=>exact hu
 |cons _ ha=>exact(ha.lt h).2
structure Dist (n:Nat) (z:List (Edge×Int)) (u:Nat) (r:Nat->Option Int):Prop where
 way:∀v,v<n->∀c,r v=some c->Way z u v c
 le:∀v c,Way z u v c->∃d,r v=some d/\d<=c
def far1(p:Nat->Int)(u:Nat)(r:Nat->Option Int)(K:Int)(v:Nat):Int:=
 match r v with
 |some d=>p v+min (d-(p v-p u)) K
 |none=>p v+K
theorem far1_cs{n:Nat}{z:List (Edge×Int)}{p:Nat->Int}{u:Nat}{r:Nat->Option Int}{K:Int}(he:Ends n z)(h:CS p z)(hd:Dist n z u r)(hK:0<=K):CS (far1 p u r K) z:=by
 rw[cs_iff]at h ⊢
 intro a b c ha
 have h1:=h a b c ha
 have hlt:=ha.lt he
 unfold far1
 cases ra:r a with
 |some d=>
  obtain⟨d',e',hd'⟩:=hd.le b (d+c) ((hd.way a hlt.1 d ra).cons ha)
  simp only[e']
  omega
 |none=>
  cases rb:r b with
  |some d=>simp only;omega
  |none=>simp only;omega
theorem far1_u{n:Nat}{z:List (Edge×Int)}{p:Nat->Int}{u:Nat}{r:Nat->Option Int}{K:Int}(h:CS p z)(hu:u<n)(hd:Dist n z u r)(hK:0<=K):far1 p u r K u=p u:=by
 obtain⟨d,e,hle⟩:=hd.le u 0 .nil
 have:=Way.le h (hd.way u hu d e)
 unfold far1
 simp only[e]
 omega
theorem dist_any{n:Nat}{z y:List (Edge×Int)}{p q:Nat->Int}{u:Nat}{r s:Nat->Option Int}(hz:Feas n z)(hy:Feas n y)(he:z.map Prod.fst=y.map Prod.fst)(hc:CS p z)(hd:CS q y)(hu:u<n)(hr:Dist n z u r)(hs:Dist n y u s):∀v,v<n->r v=s v:=by
 have key:∀{z y:List (Edge×Int)} {p q:Nat->Int} {r s:Nat->Option Int},Feas n z->Feas n y->z.map Prod.fst=y.map Prod.fst->CS p z->CS q y->Dist n z u r->Dist n y u s->∀v,v<n->∀c,s v=some c->∃d,r v=some d/\d<=c:=by
  intro z y p q r s hz hy he hc hd hr hs v hv c hsv
  have hw:=hs.way v hv c hsv
  have lo:∀K,0<=K->far1 p u r K v-p u<=c:=by
   intro K hK
   have h1:=cs_any hz hy he (far1_cs hz.ends hc hr hK) hd
   have h2:=Way.le h1 hw
   rw[far1_u hc hu hr hK]at h2
   exact h2
  cases hrv:r v with
  |some d=>
   refine⟨d,rfl,?_⟩
   have h0:=Way.le hc (hr.way v hv d hrv)
   have:=lo (d-(p v-p u)) (by omega)
   simp only[far1,hrv]at this
   omega
  |none=>
   exfalso
   have:=lo ((c-(p v-p u)).natAbs+1) (by omega)
   simp only[far1,hrv]at this
   omega
 intro v hv
 cases hrv:r v with
 |some a=>
  obtain⟨b,e1,h1⟩:=key hy hz he.symm hd hc hs hr v hv a hrv
  obtain⟨c,e2,h2⟩:=key hz hy he hc hd hr hs v hv b e1
  rw[hrv]at e2
  cases e2
  rw[e1]
  congr 1
  omega
 |none=>
  cases hsv:s v with
  |none=>rfl
  |some b=>
   obtain⟨c,e2,_⟩:=key hz hy he hc hd hr hs v hv b hsv
   rw[hrv]at e2;cases e2
theorem cut_sum(n:Nat)(S:Nat->Bool):∀z:List (Edge×Int),Ends n z->Cap z->(∀u v c,Arc z u v c->S u=true->S v=true) ->
 sumN n (λv=>(if S v then 1 else 0)*netF v z)<=0/\(0<=sumN n (λv=>(if S v then 1 else 0)*netF v z)->∀x∈z,0<x.1.wt->S x.1.fr.toNat=S x.1.to.toNat):=by
 intro z he hc ha
 rw[x11n n (λv=>if S v then 1 else 0) z he]
 simp only[Int.mul_zero,Int.zero_add]
 induction z with
 |nil=>simp
 |cons x r ih=>
  have hx:=hc x (x1f7 ..)
  obtain⟨i1,i2⟩:=ih (λy hy=>he y (x1f6 _ hy)) (λy hy=>hc y (x1f6 _ hy)) (λu v c ⟨y,hy,h⟩=>ha u v c ⟨y,x1f6 _ hy,h⟩)
  simp only[x1iz]
  have a1:x.2<x.1.wt->S x.1.fr.toNat=true->S x.1.to.toNat=true:=λh=>ha _ _ _ ⟨x,x1f7 ..,Or.inl ⟨h,rfl,rfl,rfl⟩⟩
  have a2:-x.1.wt<x.2->S x.1.to.toNat=true->S x.1.fr.toNat=true:=λh=>ha _ _ _ ⟨x,x1f7 ..,Or.inr ⟨h,rfl,rfl,rfl⟩⟩
  cases c1:S x.1.fr.toNat<;>cases c2:S x.1.to.toNat
  .simp only[x1fu,x1fm]
   refine⟨by omega,λh y hy hw=>?_⟩
   rcases x1fe.mp hy with rfl|hy
   .rw[c1,c2]
   .exact i2 (by omega) y hy hw
  .have:¬(-x.1.wt<x.2):=λh=>by have:=a2 h c2;rw[c1]at this;cases this
   simp only[x1fu,x1fm,x1fh]
   refine⟨by omega,λh y hy hw=>?_⟩
   rcases x1fe.mp hy with rfl|hy
   .omega
   .exact i2 (by omega) y hy hw
  .have:¬(x.2<x.1.wt):=λh=>by have:=a1 h c1;rw[c2]at this;cases this
   simp only[x1fu,x1fm,x1fh]
   refine⟨by omega,λh y hy hw=>?_⟩
   rcases x1fe.mp hy with rfl|hy
   .omega
   .exact i2 (by omega) y hy hw
  .simp only[x1fh]
   refine⟨by omega,λh y hy hw=>?_⟩
   rcases x1fe.mp hy with rfl|hy
   .rw[c1,c2]
   .exact i2 (by omega) y hy hw
theorem x1bl{t:Tour}{k:Nat}{a:Ar}(hk:k<t.last.length)(L B:List Int)(v:Nat):lastAt ⟨L,t.last.set k a,B⟩ v=if v=k then a else lastAt t v:=by
 unfold lastAt
 simp only
 rw[x1fd,x1fd,x1i3]
 by_cases e:k=v
 .subst e;simp[hk]
 .rw[x1ey e,x1ey (λx=>e x.symm)]
def OutA(l:List Edge)(fl:List Int)(a:Nat)(i:Int):Prop:=i∈adjI l a/\0<(arcAt l fl a i).room
structure RedOK (n:Nat) (l:List Edge) (fl tu:List Int):Prop where
 rng:∀a i,a<n->i∈adjI l (a:Nat)->0<=(arcAt l fl a i).to/\(arcAt l fl a i).to<n/\(arcAt l fl a i).to≠a
 red:∀a i,a<n->OutA l fl a i->0<=(arcAt l fl a i).cost+at0 tu a-at0 tu (arcAt l fl a i).to.toNat
structure Rel (n:Nat) (l:List Edge) (fl tu:List Int) (a:Nat) (is:List Int) (t t':Tour):Prop where
 ll:t'.len.length=n
 al:t'.last.length=n
 bl:t'.bef.length=n
 le:∀v,at0 t'.len v<=at0 t.len v
 ch:∀v,(at0 t'.len v=at0 t.len v/\lastAt t' v=lastAt t v/\at0 t'.bef v=at0 t.bef v) \/
  (at0 t'.len v<at0 t.len v/\at0 t'.bef v=a/\∃i∈is,0<(arcAt l fl a i).room/\lastAt t' v=arcAt l fl a i/\(arcAt l fl a i).to=v/\at0 t'.len v=at0 t.len a+(arcAt l fl a i).cost+at0 tu a-at0 tu v)
 cl:∀i∈is,0<(arcAt l fl a i).room->at0 t'.len (arcAt l fl a i).to.toNat<=at0 t.len a+(arcAt l fl a i).cost+at0 tu a-at0 tu (arcAt l fl a i).to.toNat
theorem x17w{n:Nat}{l:List Edge}{fl tu:List Int}{a:Nat}(ha:a<n)(hR:RedOK n l fl tu):∀(is:List Int) (t:Tour),(∀i∈is,i∈adjI l a)->t.len.length=n->t.last.length=n->t.bef.length=n ->
 Rel n l fl tu a is t (is.foldl (λt i=>if 0<(arcAt l fl a i).room then xv9 tu a t (arcAt l fl a i)else t) t)
 |[],t,_,h1,h2,h3=>⟨h1,h2,h3,λv=>x1ft _,λv=>Or.inl ⟨rfl,rfl,rfl⟩,λi hi=>by simp at hi⟩
 |i::is,t,hi,h1,h2,h3=>by
  rw[x1h2]
  obtain⟨r0,r1,r2⟩:=hR.rng a i ha (hi i (x1f7 ..))
  obtain⟨A,hA⟩:∃A,A=arcAt l fl a i:=⟨_,rfl⟩
  rw[<-hA]at r0 r1 r2
  obtain⟨k,hk⟩:∃k:Nat,A.to=k:=⟨A.to.toNat,by omega⟩
  have hkn:k<n:=by omega
  have hka:k≠a:=by omega
  obtain⟨t1,ht1⟩:∃t1,t1=(if 0<(arcAt l fl a i).room then xv9 tu a t (arcAt l fl a i)else t):=⟨_,rfl⟩
  rw[<-ht1]
  have one:Rel n l fl tu a [i] t t1:=by
   rw[ht1,<-hA]
   split
   .rename_i hr
    unfold xv9
    simp only[x1f1,hk]
    split
    .rename_i hx
     refine⟨by simp[h1],by simp[h2],by simp[h3],λv=>?_,λv=>?_,λj hj hjr=>?_⟩
     .simp only
      rw[xt0 (by omega)]
      split
      .rename_i e;subst e;omega
      .exact x1ft _
     .simp only
      rw[xt0 (by omega),xt0 (by omega),x1bl (by omega)]
      by_cases e:v=k
      .subst e
       right
       simp only[x1fh]
       exact⟨hx,trivial,i,x1f7 ..,by rw[<-hA];exact hr,hA,by rw[<-hA];exact hk,by rw[<-hA]⟩
      .left
       simp only[x1ey e]
       exact⟨trivial,trivial,trivial⟩
     .rw[x1fv]at hj
      subst hj
      rw[<-hA,hk,x1f1]
      simp only
      rw[xt0 (by omega),x1ez rfl]
      omega
    .rename_i hx
     refine⟨h1,h2,h3,λv=>x1ft _,λv=>Or.inl ⟨rfl,rfl,rfl⟩,λj hj hjr=>?_⟩
     rw[x1fv]at hj
     subst hj
     rw[<-hA,hk,x1f1]
     omega
   .rename_i hr
    refine⟨h1,h2,h3,λv=>x1ft _,λv=>Or.inl ⟨rfl,rfl,rfl⟩,λj hj hjr=>?_⟩
    rw[x1fv]at hj
    subst hj
    rw[<-hA]at hjr
    exact absurd hjr hr
  have rest:=x17w ha hR is t1 (λj hj=>hi j (x1f6 _ hj)) one.ll one.al one.bl
  have ea:at0 t1.len a=at0 t.len a:=by
   rcases one.ch a with h|⟨_,_,j,hj,_,_,hj2,_⟩
   .exact h.1
   .rw[x1fv]at hj
    subst hj
    rw[<-hA,hk]at hj2
    omega
  refine⟨rest.ll,rest.al,rest.bl,λv=>Int.le_trans (rest.le v) (one.le v),λv=>?_,λj hj hjr=>?_⟩
  .rcases rest.ch v with ⟨e1,e2,e3⟩|⟨e1,e2,j,hj,e3,e4,e5,e6⟩
   .rcases one.ch v with ⟨f1,f2,f3⟩|⟨f1,f2,j,hj,f3,f4,f5,f6⟩
    .left;exact⟨by rw[e1,f1],by rw[e2,f2],by rw[e3,f3]⟩
    .right
     rw[x1fv]at hj
     subst hj
     exact⟨by rw[e1];exact f1,by rw[e3,f2],j,x1f7 ..,f3,by rw[e2,f4],f5,by rw[e1];exact f6⟩
   .right
    have:=one.le v
    exact⟨by omega,e2,j,x1f6 _ hj,e3,e4,e5,by rw[e6,ea]⟩
  .rcases x1fe.mp hj with rfl|hj
   .have h1:=one.cl j (x1f7 ..) hjr
    have h2:=rest.le (arcAt l fl a j).to.toNat
    omega
   .have:=rest.cl j hj hjr
    rw[ea]at this
    exact this
structure Dij (n:Nat) (l:List Edge) (fl tu:List Int) (fr:Nat) (t:Tour) (ds:List Bool) (rk:Nat->Nat) (R:Nat):Prop where
 ll:t.len.length=n
 al:t.last.length=n
 bl:t.bef.length=n
 dl:ds.length=n
 le:∀v,at0 t.len v<=farM
 z:at0 t.len fr=0
 st:dn ds fr=true\/∀v,v<n->v≠fr->at0 t.len v=farM
 pre:∀v,v<n->v≠fr->at0 t.len v<farM->∃w,w<n/\dn ds w=true/\at0 t.bef v=(w:Nat)/\(dn ds v=true->rk w<rk v) /\
  ∃i,OutA l fl w i/\lastAt t v=arcAt l fl w i/\(arcAt l fl w i).to=v/\at0 t.len v=at0 t.len w+(arcAt l fl w i).cost+at0 tu w-at0 tu v
 don:∀a,a<n->dn ds a=true->at0 t.len a<farM/\rk a<R/\(∀b,b<n->dn ds b=false->at0 t.len a<=at0 t.len b) /\
  ∀i,OutA l fl a i->at0 t.len (arcAt l fl a i).to.toNat<=at0 t.len a+(arcAt l fl a i).cost+at0 tu a-at0 tu (arcAt l fl a i).to.toNat
theorem dij_step{n:Nat}{l:List Edge}{fl tu:List Int}{fr:Nat}{t:Tour}{ds:List Bool}{rk:Nat->Nat}{R:Nat}(hR:RedOK n l fl tu)(h:Dij n l fl tu fr t ds rk R)(hfr:fr<n){a:Nat}(ha:a<n)(hda:dn ds a=false)(hla:at0 t.len a<farM)(hmin:∀i,i<n->dn ds i=false->at0 t.len a<=at0 t.len i) :
 Dij n l fl tu fr (xyt l fl tu a t) (ds.set a true) (λv=>if v=a then R else rk v) (R+1):=by
 have rel:Rel n l fl tu a (adjI l a) t (xyt l fl tu a t):=x17w ha hR (adjI l a) t (λi hi=>hi) h.ll h.al h.bl
 obtain⟨t',ht'⟩:∃t',t'=xyt l fl tu a t:=⟨_,rfl⟩
 rw[<-ht']at rel ⊢
 have dset:∀j,dn (ds.set a true) j=if j=a then true else dn ds j:=λj=>dn_set (by rw[h.dl];exact ha)
 have same:∀b,b<n->(b=a\/dn ds b=true)->at0 t'.len b=at0 t.len b/\lastAt t' b=lastAt t b/\at0 t'.bef b=at0 t.bef b:=by
  intro b hb hd
  rcases rel.ch b with h1|⟨h1,h2,i,hi,h3,h4,h5,h6⟩
  .exact h1
  .exfalso
   have hr:=hR.red a i ha ⟨hi,h3⟩
   have hg:=hR.rng a i ha hi
   rw[h5,x1f1]at hr
   rcases hd with rfl|hd
   .exact hg.2.2 h5
   .have:=(h.don b hb hd).2.2.1 a ha hda
    omega
 have sa:=same a ha (Or.inl rfl)
 refine⟨rel.ll,rel.al,rel.bl,by simp[h.dl],λv=>Int.le_trans (rel.le v) (h.le v),?_,?_,?_,?_⟩
 .rcases h.st with hs|hs
  .rw[(same fr hfr (Or.inr hs)).1];exact h.z
  .have:a=fr:=by
    by_cases e:a=fr
    .exact e
    .have:=hs a ha e;omega
   rw[<-this,sa.1,this];exact h.z
 .left
  rw[dset]
  split
  .rfl
  .rename_i e
   rcases h.st with hs|hs
   .exact hs
   .have:=hs a ha (λx=>e x.symm);omega
 .intro v hv hvf hlv
  rcases rel.ch v with ⟨e1,e2,e3⟩|⟨e1,e2,i,hi,e3,e4,e5,e6⟩
  .obtain⟨w,w1,w2,w3,w4,i,w5,w6,w7,w8⟩:=h.pre v hv hvf (by omega)
   have hwa:w≠a:=by rintro rfl;rw[w2]at hda;cases hda
   refine⟨w,w1,by rw[dset,x1ey hwa];exact w2,by rw[e3];exact w3,λhd=>?_,i,w5,by rw[e2];exact w6,w7,by rw[e1,(same w w1 (Or.inr w2)).1];exact w8⟩
   rw[x1ey hwa]
   by_cases e:v=a
   .rw[x1ez e];exact(h.don w w1 w2).2.1
   .rw[x1ey e]
    rw[dset,x1ey e]at hd
    exact w4 hd
  .refine⟨a,ha,by rw[dset,x1ez rfl],e2,λhd=>?_,i,⟨hi,e3⟩,e4,e5,by rw[sa.1];exact e6⟩
   exfalso
   have:v=a\/dn ds v=true:=by
    rw[dset]at hd
    by_cases e:v=a
    .exact Or.inl e
    .rw[x1ey e]at hd;exact Or.inr hd
   have:=(same v hv this).1
   omega
 .intro b hb hd
  have hd':b=a\/dn ds b=true:=by
   rw[dset]at hd
   by_cases e:b=a
   .exact Or.inl e
   .rw[x1ey e]at hd;exact Or.inr hd
  have sb:=same b hb hd'
  have lba:at0 t.len b<=at0 t.len a:=by
   rcases hd' with rfl|hd'
   .exact x1ft _
   .exact(h.don b hb hd').2.2.1 a ha hda
  refine⟨by omega,?_,λc hc hdc=>?_,λi hi=>?_⟩
  .split
   .omega
   .rename_i e
    rcases hd' with e'|hd'
    .exact absurd e' e
    .have:=(h.don b hb hd').2.1;omega
  .rw[dset]at hdc
   have hca:c≠a:=by rintro rfl;simp at hdc
   rw[x1ey hca]at hdc
   have hac:=hmin c hc hdc
   rcases rel.ch c with ⟨e1,-,-⟩|⟨e1,e2,i,hi,e3,e4,e5,e6⟩
   .omega
   .have hr:=hR.red a i ha ⟨hi,e3⟩
    rw[e5,x1f1]at hr
    omega
  .rw[sb.1]
   rcases hd' with rfl|hd'
   .exact rel.cl i hi.1 hi.2
   .have h1:=(h.don b hb hd').2.2.2 i hi
    have h2:=rel.le (arcAt l fl b i).to.toNat
    omega
theorem ways_dij{n:Nat}{l:List Edge}{fl tu:List Int}{fr:Nat}(hR:RedOK n l fl tu)(hfr:fr<n):∀(f:Nat) (t:Tour) (ds:List Bool) (rk:Nat->Nat) (R:Nat),Dij n l fl tu fr t ds rk R->cntF ds<f ->
 ∃ds' rk' R',Dij n l fl tu fr (xxc l fl tu f t ds) ds' rk' R'/\∀v,v<n->dn ds' v=false->at0 (xxc l fl tu f t ds).len v=farM:=by
 intro f
 induction f with
 |zero=>intro t ds rk R _ h;omega
 |succ f ih=>
  intro t ds rk R h hf
  simp only[xxc]
  have hp:=x141 (len:=t.len) (ds:=ds) (by rw[h.dl,h.ll]) t.len ds 0 (-1) rfl rfl (by omega) (Or.inl ⟨rfl,λi hi=>by omega⟩)
  rw[show((0:Nat):Int)=0 from rfl]at hp
  obtain⟨p,hpe⟩:∃p,p=xxb t.len (-1) 0 t.len ds:=⟨_,rfl⟩
  rw[<-hpe]at hp ⊢
  rcases hp with ⟨h1,h2⟩|⟨h1,h2,h3,h4,h5⟩
  .rw[x1ez (by omega)]
   exact⟨ds,rk,R,h,λv hv hd=>by have:=h2 v (by rw[h.ll];exact hv) hd;have:=h.le v;omega⟩
  .rw[x1ey (by omega)]
   have hpn:p.toNat<n:=by have:=h.ll;omega
   have:=dij_step hR h hfr hpn h3 h4 (λi hi hd=>h5 i (by rw[h.ll];exact hi) hd)
   rw[x1ge h1]at this
   exact ih _ _ _ _ this (by have:=x11i (ds:=ds) (k:=p.toNat) (by rw[h.dl];exact hpn) h3;omega)
structure WaysOK (n:Nat) (l:List Edge) (fl tu:List Int) (fr:Nat) (t:Tour) (rk:Nat->Nat):Prop where
 ll:t.len.length=n
 al:t.last.length=n
 bl:t.bef.length=n
 le:∀v,at0 t.len v<=farM
 z:at0 t.len fr=0
 pre:∀v,v<n->v≠fr->at0 t.len v<farM->∃w,w<n/\at0 t.len w<farM/\at0 t.bef v=(w:Nat)/\rk w<rk v /\
  ∃i,OutA l fl w i/\lastAt t v=arcAt l fl w i/\(arcAt l fl w i).to=v/\at0 t.len v=at0 t.len w+(arcAt l fl w i).cost+at0 tu w-at0 tu v
 cl:∀a,a<n->at0 t.len a<farM->∀i,OutA l fl a i->at0 t.len (arcAt l fl a i).to.toNat<=at0 t.len a+(arcAt l fl a i).cost+at0 tu a-at0 tu (arcAt l fl a i).to.toNat
 nn:∀v,v<n->0<=at0 t.len v
theorem dij_start{n:Nat}{l:List Edge}{fl tu:List Int}{fr:Nat}(hfr:fr<n):Dij n l fl tu fr (xtx n fr) (List.replicate n false) (λ_=>0) 0:=by
 have hl:∀v,at0 (xtx n fr).len v=if v=fr then 0 else if v<n then farM else 0:=by
  intro v
  unfold xtx
  simp only[x1f1]
  rw[xt0 (by simp;omega)]
  split
  .rfl
  .unfold at0
   rw[x1fd,x1ig]
   split<;>rfl
 refine⟨by simp[xtx],by simp[xtx],by simp[xtx],by simp,λv=>?_,?_,?_,?_,?_⟩
 .have:(0:Int)<=farM:=by decide
  rw[hl]
  split
  .exact this
  .split
   .exact x1ft _
   .exact this
 .rw[hl,x1ez rfl]
 .right;intro v hv hvf;rw[hl,x1ey hvf,x1ez hv]
 .intro v hv hvf h;rw[hl,x1ey hvf,x1ez hv]at h;exact absurd h (Int.lt_irrefl _)
 .intro a ha hd
  exfalso
  rw[dn_lt (by simpa using ha)]at hd
  simp at hd
theorem x148{n:Nat}{l:List Edge}{fl tu:List Int}{fr:Nat}(hR:RedOK n l fl tu)(hfr:fr<n)(hn:n<=200):∃rk,WaysOK n l fl tu fr (waysF n l fl tu fr) rk:=by
 obtain⟨ds,rk,R,h,hd⟩:=ways_dij hR hfr NN (xtx n fr) (List.replicate n false) _ _ (dij_start hfr) (by rw[x140,xrg];omega)
 have fin:∀v,v<n->at0 (waysF n l fl tu fr).len v<farM->dn ds v=true:=by
  intro v hv hl
  cases c:dn ds v with
  |true=>rfl
  |false=>have:=hd v hv c;unfold waysF at hl;omega
 have nn:∀r v,v<n->rk v<r->at0 (waysF n l fl tu fr).len v<farM->0<=at0 (waysF n l fl tu fr).len v:=by
  intro r
  induction r with
  |zero=>intro v _ h;omega
  |succ r ih=>
   intro v hv hr hl
   by_cases e:v=fr
   .rw[e];unfold waysF;rw[h.z];omega
   .obtain⟨w,w1,w2,w3,w4,i,w5,w6,w7,w8⟩:=h.pre v hv e hl
    have h1:=w4 (fin v hv hl)
    have h2:=ih w w1 (by omega) (h.don w w1 w2).1
    have h3:=hR.red w i w1 w5
    rw[w7,x1f1]at h3
    unfold waysF at *
    omega
 refine⟨rk,h.ll,h.al,h.bl,h.le,h.z,λv hv hvf hl=>?_,λa ha hl i hi=>((h.don a ha (fin a ha hl)).2.2.2 i hi),λv hv=>?_⟩
 .obtain⟨w,w1,w2,w3,w4,w5⟩:=h.pre v hv hvf hl
  exact⟨w,w1,(h.don w w1 w2).1,w3,w4 (fin v hv hl),w5⟩
 .by_cases c:at0 (waysF n l fl tu fr).len v<farM
  .exact nn _ v hv (x1hh _) c
  .have:(0:Int)<=farM:=by decide
   omega
end Go.Ix
