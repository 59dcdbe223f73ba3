import Derived.Test.YtgediplphidhpaaGreatWg14
set_option linter.unusedSimpArgs false
set_option linter.unusedVariables false
namespace Go.Ix
open Go.Proofs
theorem xxu{u v:Int}(h:u<v):cmpI u v=-1:=if_pos h
theorem xw3{u v:Int}(h:v<u):cmpI u v=1:=by unfold cmpI;rw[if_neg (by omega),if_pos h]
theorem x13y{u v x y:Int}(h:u-v=x-y):cmpI u v=cmpI x y:=by
 unfold cmpI
 by_cases c:u<v
 .rw[if_pos c,if_pos (by omega)]
 .rw[if_neg c,if_neg (show ¬x<y by omega)]
  by_cases c2:v<u
  .rw[if_pos c2,if_pos (by omega)]
  .rw[if_neg c2,if_neg (show ¬y<x by omega)]
theorem xxv{n d m k:Int}(hd:0<d)(hk:0<k)(h:n / d<m / k):n*k<m*d:=by
 have h1:n<(n / d+1)*d:=Int.lt_ediv_add_one_mul_self n hd
 have h2:m / k*k<=m:=Int.ediv_mul_le m (by omega)
 have h3:n*k<(n / d+1)*d*k:=Int.mul_lt_mul_of_pos_right h1 hk
 have h4:(n / d+1)*(d*k)<=m / k*(d*k):=x1aw (by omega) (Int.le_of_lt (x1b5 hd hk))
 have h5:m / k*k*d<=m*d:=x1aw h2 (by omega)
 have e1:(n / d+1)*d*k=(n / d+1)*(d*k):=x1cf ..
 have e2:m / k*(d*k)=m / k*k*d:=by rw[Int.mul_comm d k,x1cf]
 omega
theorem x13z{n d m k:Int}(h:n / d=m / k):n*k-m*d=k*(n-n / d*d)-d*(m-m / k*k):=by
 rw[h]
 generalize m / k=q
 grind
theorem x140{n d:Int}(hd:0<d)(hn:d<=n){N:Nat}(h:n*d<2 ^ (N+1)):d*(n-n / d*d)<2 ^ N:=by
 have h1:1<=n / d:=by
  have:=(Int.le_ediv_iff_mul_le (a:=1) (b:=n) hd).mpr (by omega)
  exact this
 have h2:n-n / d*d<d:=by
  have:=Int.lt_ediv_add_one_mul_self n hd
  rw[x1av,x1ba]at this
  omega
 have h3:d<=n / d*d:=by
  have:=x1aw h1 (Int.le_of_lt hd)
  rw[x1ba]at this
  exact this
 have h4:2*(n-n / d*d)<=n-1:=by omega
 have h5:d*(2*(n-n / d*d))<=d*(n-1):=x1dx h4 (Int.le_of_lt hd)
 have e1:d*(2*(n-n / d*d))=2*(d*(n-n / d*d)):=by rw[<-x1cf,Int.mul_comm d 2,x1cf]
 have e2:d*(n-1)=n*d-d:=by rw[Int.mul_sub,Int.mul_one,Int.mul_comm]
 have e3:(2:Int) ^ (N+1)=2*2 ^ N:=by rw[Int.pow_succ,Int.mul_comm]
 omega
theorem l_Cmp(d:Nat)(hs:FHs)(u:Nat):∀(N:Nat) (n e m k:Int) (j:Nat) (mm:Mem) (fc:Nat),0<e->0<k->e<=n->k<=m->n<=4000000000000000000->m<=4000000000000000000->n*e<2 ^ N->m*k<2 ^ N->N<j ->
 x5h (xnt (d+1)) hs u j (I n) (I e) (I m) (I k) mm fc=some (I (cmpI (n*k) (m*e)),mm):=by
 intro N
 induction N with
 |zero=>
  intro n e m k j mm fc he hk h1 h2 b1 b2 p1 p2 hj
  exfalso
  have:=x1b5 (show 0<n by omega) he
  omega
 |succ N ih=>
  intro n e m k j mm fc he hk h1 h2 b1 b2 p1 p2 hj
  obtain⟨j,rfl⟩:∃i,j=i+1:=⟨j-1,by omega⟩
  have f1:=λmm=>xsd d (x:=n) (y:=e) he (by unfold bd;omega) mm
  have f2:=λmm=>xsd d (x:=m) (y:=k) hk (by unfold bd;omega) mm
  have q1:0<=n / e:=Int.ediv_nonneg (by omega) (by omega)
  have q2:0<=m / k:=Int.ediv_nonneg (by omega) (by omega)
  have r1:n / e*e<=n:=Int.ediv_mul_le n (by omega)
  have r2:m / k*k<=m:=Int.ediv_mul_le m (by omega)
  have z1:0<=n / e*e:=x19z q1 (by omega)
  have z2:0<=m / k*k:=x19z q2 (by omega)
  have l1:n-n / e*e<e:=by
   have:=Int.lt_ediv_add_one_mul_self n he
   rw[x1av,x1ba]at this
   omega
  have l2:m-m / k*k<k:=by
   have:=Int.lt_ediv_add_one_mul_self m hk
   rw[x1av,x1ba]at this
   omega
  simp only[x5h]
  unfold xag
  by_cases c1:n / e<m / k
  .rw[xxu (xxv he hk c1)]
   simp[f1,f2,c1]
  by_cases c2:m / k<n / e
  .rw[xw3 (by have:=xxv hk he c2;rw[Int.mul_comm n k,Int.mul_comm m e];rw[Int.mul_comm m e,Int.mul_comm n k]at this;exact this)]
   simp[f1,f2,c1,c2]
  have heq:n / e=m / k:=by omega
  have hsub:=x13z (n:=n) (d:=e) (m:=m) (k:=k) heq
  have g1:=x140 he h1 p1
  have g2:=x140 hk h2 p2
  rw[x13y hsub]
  simp(disch:=omega) [f1,f2,c1,c2,xnx]
  by_cases y1:n-n / e*e=0
  .by_cases y2:m-m / k*k=0
   .rw[y1,y2]
    simp[cmpI]
   .have:cmpI (k*(n-n / e*e)) (e*(m-m / k*k))=-1:=xxu (by rw[y1,x1cd];exact x1b5 he (by omega))
    rw[this]
    simp[y1,y2]
  by_cases y2:m-m / k*k=0
  .have:cmpI (k*(n-n / e*e)) (e*(m-m / k*k))=1:=xw3 (by rw[y2,x1cd];exact x1b5 hk (by omega))
   rw[this]
   simp[y1,y2]
  .have h':=ih k (m-m / k*k) e (n-n / e*e) j mm (fc+44) (by omega) (by omega) (by omega) (by omega) (by omega) (by omega) g2 g1 (by omega)
   simp[y1,y2]
   exact h'
theorem xxw(d:Nat){n e m k:Int}(hn:0<=n/\n<=1000000000000000000)(he:0<e/\e<=1000000000000000000)(hm:0<=m/\m<=1000000000000000000)(hk:0<k/\k<=1000000000000000000)(mm:Mem):xnu (xnt (d+2)) x1j [I n,I e,I m,I k] mm=some (I (cmpI (n*k) (m*e)),mm):=by
 refine xo0 rfl ?_ mm
 rw[xjj]
 obtain⟨NM,hNM⟩:∃NM,NN=NM+1:=⟨NN-1,by have:=xo8;omega⟩
 have hNM2:1000000<NM:=by have:=xo8;omega
 unfold xdp xah
 rw[hNM]
 simp only[x5h]
 unfold xag
 have f1:=λmm=>xsd d (x:=n) (y:=e) he.1 (by unfold bd;omega) mm
 have f2:=λmm=>xsd d (x:=m) (y:=k) hk.1 (by unfold bd;omega) mm
 have q1:0<=n / e:=Int.ediv_nonneg (by omega) (by omega)
 have q2:0<=m / k:=Int.ediv_nonneg (by omega) (by omega)
 have r1:n / e*e<=n:=Int.ediv_mul_le n (by omega)
 have r2:m / k*k<=m:=Int.ediv_mul_le m (by omega)
 have z1:0<=n / e*e:=x19z q1 (by omega)
 have z2:0<=m / k*k:=x19z q2 (by omega)
 have l1:n-n / e*e<e:=by
  have:=Int.lt_ediv_add_one_mul_self n he.1
  rw[x1av,x1ba]at this
  omega
 have l2:m-m / k*k<k:=by
  have:=Int.lt_ediv_add_one_mul_self m hk.1
  rw[x1av,x1ba]at this
  omega
 by_cases c1:n / e<m / k
 .rw[xxu (xxv he.1 hk.1 c1)]
  simp[mem0,f1,f2,c1]
  exact RetF.st rfl rfl
 by_cases c2:m / k<n / e
 .rw[xw3 (by have:=xxv hk.1 he.1 c2;rw[Int.mul_comm n k,Int.mul_comm m e];rw[Int.mul_comm m e,Int.mul_comm n k]at this;exact this)]
  simp[mem0,f1,f2,c1,c2]
  exact RetF.st rfl rfl
 have heq:n / e=m / k:=by omega
 have hsub:=x13z (n:=n) (d:=e) (m:=m) (k:=k) heq
 rw[x13y hsub]
 simp(disch:=omega) [mem0,f1,f2,c1,c2,xnx]
 by_cases y1:n-n / e*e=0
 .by_cases y2:m-m / k*k=0
  .rw[y1,y2]
   simp[cmpI]
   exact RetF.st rfl rfl
  .have:cmpI (k*(n-n / e*e)) (e*(m-m / k*k))=-1:=xxu (by rw[y1,x1cd];exact x1b5 he.1 (by omega))
   rw[this]
   simp[y1,y2]
   exact RetF.st rfl rfl
 by_cases y2:m-m / k*k=0
 .have:cmpI (k*(n-n / e*e)) (e*(m-m / k*k))=1:=xw3 (by rw[y2,x1cd];exact x1b5 hk.1 (by omega))
  rw[this]
  simp[y1,y2]
  exact RetF.st rfl rfl
 .have bb:∀u v:Int,0<=u->u<=1000000000000000000->0<=v->v<=1000000000000000000->u*v<2 ^ 130:=λu v a1 a2 a3 a4=>by
   have:=x1bh a2 a4 a3 (by omega)
   omega
  have h':=l_Cmp d [] 0 130 k (m-m / k*k) e (n-n / e*e) NM ⟨[],1⟩ 45 (by omega) (by omega) (by omega) (by omega) (by omega) (by omega) (bb _ _ (by omega) (by omega) (by omega) (by omega)) (bb _ _ (by omega) (by omega) (by omega) (by omega)) (by omega)
  simp[y1,y2]
  rw[h']
  exact RetF.st rfl rfl
structure Fo where
 p:Int
 q:Int
 n:Int
 e:Int
def Fo.far(f:Fo):Int:=(f.p.natAbs:Int)+(f.q.natAbs:Int)
def Fo.ok(f:Fo):Prop:=0<=f.n/\0<f.e
def befF(f g:Fo):Prop:=f.n*g.e > g.n*f.e\/f.n*g.e=g.n*f.e/\(f.far<g.far\/f.far=g.far/\(f.p<g.p\/f.p=g.p/\f.q<g.q))
theorem x141{a b c d e f:Int}(hb:0<b)(hd:0<d)(hf:0<f)(h1:a*d ≥ c*b)(h2:c*f ≥ e*d):a*f ≥ e*b/\(a*d > c*b\/c*f > e*d->a*f > e*b):=by
 have k1:a*d*f ≥ c*b*f:=x1aw h1 (by omega)
 have k2:c*f*b ≥ e*d*b:=x1aw h2 (by omega)
 have e1:c*b*f=c*f*b:=by grind
 have e2:a*d*f=a*f*d:=by grind
 have e3:e*d*b=e*b*d:=by grind
 have k3:a*f*d ≥ e*b*d:=by omega
 refine⟨Int.le_of_mul_le_mul_right k3 hd,λh=>?_⟩
 have k4:a*f*d > e*b*d:=by
  rcases h with h|h
  .have:a*d*f > c*b*f:=Int.mul_lt_mul_of_pos_right h hf
   omega
  .have:c*f*b > e*d*b:=Int.mul_lt_mul_of_pos_right h hb
   omega
 exact Int.lt_of_mul_lt_mul_right k4 (by omega)
theorem x166{f g h:Fo}(hf:f.ok)(hg:g.ok)(hh:h.ok)(h1:befF f g)(h2:befF g h):befF f h:=by
 have a1:f.n*g.e ≥ g.n*f.e:=by unfold befF at h1;omega
 have a2:g.n*h.e ≥ h.n*g.e:=by unfold befF at h2;omega
 obtain⟨b1,b2⟩:=x141 hf.2 hg.2 hh.2 a1 a2
 by_cases c:f.n*g.e > g.n*f.e\/g.n*h.e > h.n*g.e
 .exact Or.inl (b2 c)
 .have e1:f.n*g.e=g.n*f.e:=by omega
  have e2:g.n*h.e=h.n*g.e:=by omega
  have e3:f.n*h.e=h.n*f.e:=by
   obtain⟨c1,-⟩:=x141 hh.2 hg.2 hf.2 (show h.n*g.e ≥ g.n*h.e by omega) (show g.n*f.e ≥ f.n*g.e by omega)
   omega
  unfold befF at h1 h2 ⊢
  omega
theorem befF_tri{f g:Fo}(h:¬(f.p=g.p/\f.q=g.q)):befF f g\/befF g f:=by
 unfold befF
 omega
theorem x142(f:Fo):¬befF f f:=by unfold befF;omega
structure Best (sc:Int->Int->Option (Int×Int)) (Q:Int->Int->Prop) (f:Fo):Prop where
 own:Q f.p f.q
 hs:sc f.p f.q=some (f.n,f.e)
 all:∀g:Fo,Q g.p g.q->sc g.p g.q=some (g.n,g.e)->¬befF g f
def BestO(sc:Int->Int->Option (Int×Int))(Q:Int->Int->Prop):Option Fo->Prop
 |none=>∀p q,Q p q->sc p q=none
 |some f=>Best sc Q f
variable{sc:Int->Int->Option (Int×Int)}{Q Q':Int->Int->Prop}
theorem BestO.congr{o:Option Fo}(h:BestO sc Q o)(hq:∀p q,Q p q↔Q' p q):BestO sc Q' o:=by
 cases o with
 |none=>exact λp q hpq=>h p q ((hq p q).mpr hpq)
 |some f=>exact⟨(hq _ _).mp h.own,h.hs,λg h1 h2=>Best.all h g ((hq _ _).mpr h1) h2⟩
theorem Best.uniq{f g:Fo}(hf:Best sc Q f)(hg:Best sc Q g):f=g:=by
 have h1:=hf.all g hg.own hg.hs
 have h2:=hg.all f hf.own hf.hs
 have hpq:f.p=g.p/\f.q=g.q:=by
  by_cases c:f.p=g.p/\f.q=g.q
  .exact c
  .rcases befF_tri c with h|h
   .exact absurd h h2
   .exact absurd h h1
 have hs:=hg.hs
 rw[<-hpq.1,<-hpq.2,hf.hs]at hs
 simp only[x193,x192]at hs
 obtain⟨p,q,n,e⟩:=f
 obtain⟨p',q',n',e'⟩:=g
 simp only at hpq hs ⊢
 rw[hpq.1,hpq.2,hs.1,hs.2]
theorem BestO.uniq{a b:Option Fo}(ha:BestO sc Q a)(hb:BestO sc Q b):a=b:=by
 cases a with
 |none=>
  cases b with
  |none=>rfl
  |some f=>have:=ha _ _ (Best.own hb);rw[Best.hs hb]at this;cases this
 |some f=>
  cases b with
  |none=>have:=hb _ _ (Best.own ha);rw[Best.hs ha]at this;cases this
  |some g=>rw[Best.uniq ha hb]
theorem BestO.skip{o:Option Fo}{x y:Int}(h:BestO sc Q o)(hx:sc x y=none):BestO sc (λp q=>Q p q\/(p=x/\q=y)) o:=by
 cases o with
 |none=>
  intro p q hpq
  rcases hpq with hpq|⟨rfl,rfl⟩
  .exact h p q hpq
  .exact hx
 |some f=>
  refine⟨Or.inl (Best.own h),Best.hs h,λg h1 h2=>?_⟩
  rcases h1 with h1|⟨h1,h3⟩
  .exact Best.all h g h1 h2
  .rw[h1,h3,hx]at h2;cases h2
theorem BestO.keep{f:Fo}{x y n e:Int}(h:BestO sc Q (some f))(hx:sc x y=some (n,e))(hb:¬befF ⟨x,y,n,e⟩ f):BestO sc (λp q=>Q p q\/(p=x/\q=y)) (some f):=by
 refine⟨Or.inl (Best.own h),Best.hs h,λg h1 h2=>?_⟩
 rcases h1 with h1|⟨h1,h3⟩
 .exact Best.all h g h1 h2
 .rw[h1,h3,hx]at h2
  simp only[x193,x192]at h2
  obtain⟨p,q,n',e'⟩:=g
  simp only at h1 h3 h2
  rw[h1,h3,<-h2.1,<-h2.2]
  exact hb
theorem BestO.take{f:Fo}{x y n e:Int}(hok:∀p q n e,sc p q=some (n,e)->0<=n/\0<e)(h:BestO sc Q (some f))(hx:sc x y=some (n,e))(hb:befF ⟨x,y,n,e⟩ f):BestO sc (λp q=>Q p q\/(p=x/\q=y)) (some ⟨x,y,n,e⟩):=by
 refine⟨Or.inr ⟨rfl,rfl⟩,hx,λg h1 h2 h3=>?_⟩
 rcases h1 with h1|⟨h1,h4⟩
 .exact Best.all h g h1 h2 (x166 (hok _ _ _ _ h2) (hok _ _ _ _ hx) (hok _ _ _ _ (Best.hs h)) h3 hb)
 .rw[h1,h4,hx]at h2
  simp only[x193,x192]at h2
  obtain⟨p,q,n',e'⟩:=g
  simp only at h1 h4 h2
  rw[h1,h4,<-h2.1,<-h2.2]at h3
  exact x142 _ h3
theorem BestO.first{x y n e:Int}(h:BestO sc Q none)(hx:sc x y=some (n,e)):BestO sc (λp q=>Q p q\/(p=x/\q=y)) (some ⟨x,y,n,e⟩):=by
 refine⟨Or.inr ⟨rfl,rfl⟩,hx,λg h1 h2 h3=>?_⟩
 rcases h1 with h1|⟨h1,h4⟩
 .have:=h _ _ h1;rw[h2]at this;cases this
 .rw[h1,h4,hx]at h2
  simp only[x193,x192]at h2
  obtain⟨p,q,n',e'⟩:=g
  simp only at h1 h4 h2
  rw[h1,h4,<-h2.1,<-h2.2]at h3
  exact x142 _ h3
end Go.Ix
set_option exponentiation.threshold 3000
namespace Go.Ix
open Go.Proofs
def lexC(p q p' q':Int):Int:=if cmpI p p'=0 then cmpI q q' else cmpI p p'
theorem w_sCmp(d:Nat)(p q p' q':Int):RetF (λa=>a=I (lexC p q p' q')) (xnt (d+3) [] x4e [.slit [I p,I q] 2 false,.slit [I p',I q'] 2 false] mem0):=by
 have hx:Sl intE (.slit [I p,I q] 2 false) [p,q]:=Sl.lit (enc:=intE) [p,q] false
 have hy:Sl intE (.slit [I p',I q'] 2 false) [p',q']:=Sl.lit (enc:=intE) [p',q'] false
 have i0:=hx.ix (z:=1) (λ_=>rfl) (k:=0) (by simp)
 have i1:=hx.ix (z:=1) (λ_=>rfl) (k:=1) (by simp)
 have j0:=hy.ix (z:=1) (λ_=>rfl) (k:=0) (by simp)
 have j1:=hy.ix (z:=1) (λ_=>rfl) (k:=1) (by simp)
 have n1:=hx.len xrv
 have n2:=hy.len xrv
 rw[xke]
 obtain⟨NM,hNM⟩:∃NM,NN=NM+3:=⟨NN-3,by have:=xo8;omega⟩
 unfold xej xc6 xhs lexC
 simp only[mem0,n1,xnz,hNM]
 simp only[xc5]
 unfold xhr xhq
 simp only[x19e,x1az]at n1 n2
 have i0':sIx 1 (.slit [I p,I q] 2 false) (I 0)=some (.plit [I p,I q]):=i0
 have i1':sIx 1 (.slit [I p,I q] 2 false) (I 1)=some (.plit [I q]):=i1
 have j0':sIx 1 (.slit [I p',I q'] 2 false) (I 0)=some (.plit [I p',I q']):=j0
 have j1':sIx 1 (.slit [I p',I q'] 2 false) (I 1)=some (.plit [I q']):=j1
 have n1':sLen Tryz.prog xg (.slit [I p,I q] 2 false)=some (I 2):=n1
 have n2':sLen Tryz.prog xg (.slit [I p',I q'] 2 false)=some (I 2):=n2
 by_cases c1:cmpI p p'=0
 .by_cases c2:cmpI q q'=0
  .simp[i0',i1',j0',j1',n1',n2',xxr,c1,c2,xnx]
   exact RetF.st rfl rfl
  .simp[i0',i1',j0',j1',n1',n2',xxr,c1,c2,xnx]
   exact RetF.st rfl rfl
 .simp[i0',i1',j0',j1',n1',n2',xxr,c1,xnx]
  exact RetF.st rfl rfl
structure Fo.fine (f:Fo):Prop where
 n0:0<=f.n
 n1:f.n<9000000000000000000
 e0:0<f.e
 e1:f.e<9000000000000000000
 p:-64<=f.p/\f.p<=64
 q:-64<=f.q/\f.q<=64
def Fo.c(f:Fo):List AV:=[I f.p,I f.q,I f.n,I f.e]
def befB(f g:Fo):Bool:=decide (orI [cmpN (g.n.toNat*f.e.toNat) (f.n.toNat*g.e.toNat),cmpI f.far g.far,lexC f.p f.q g.p g.q]<0)
theorem x143{f g:Fo}(hf:f.fine)(hg:g.fine):befB f g=true↔befF f g:=by
 have e1:((g.n.toNat*f.e.toNat:Nat):Int)=g.n*f.e:=by rw[Int.natCast_mul,x1c8 hg.n0,x1c8 (Int.le_of_lt hf.e0)]
 have e2:((f.n.toNat*g.e.toNat:Nat):Int)=f.n*g.e:=by rw[Int.natCast_mul,x1c8 hf.n0,x1c8 (Int.le_of_lt hg.e0)]
 unfold befB befF
 rw[x1bm,<-e1,<-e2]
 generalize g.n.toNat*f.e.toNat=u
 generalize f.n.toNat*g.e.toNat=v
 generalize f.far=a
 generalize g.far=b
 unfold orI orI orI orI cmpN cmpI lexC cmpI
 by_cases c1:u<v
 .simp[c1]
 by_cases c2:v<u
 .simp[c1,c2];omega
 have:u=v:=by omega
 subst this
 by_cases c3:a<b
 .simp[c3]
 by_cases c4:b<a
 .simp[c3,c4];omega
 have:a=b:=by omega
 subst this
 by_cases c5:f.p<g.p
 .simp[c5]
 by_cases c6:g.p<f.p
 .simp[c5,c6];omega
 have:f.p=g.p:=by omega
 simp[c5,c6,this]
 by_cases c7:f.q<g.q
 .simp[c7]
 by_cases c8:g.q<f.q
 .simp[c7,c8]
 .simp[c7,c8]
theorem w_far(d:Nat){f:Fo}(hf:f.fine)(m:Mem):xqa (xnt (d+2)) [] 0 (.clo xp []) [.agg f.c] m=some (I f.far,m):=by
 obtain⟨hp1,hp2⟩:=hf.p
 obtain⟨hq1,hq2⟩:=hf.q
 have s1:=λm=>xtu d f.p m (by omega) (by omega)
 have s2:=λm=>xtu d f.q m (by omega) (by omega)
 show xnu (xnt (d+2)) xp [.agg f.c] m=_
 refine xo0 rfl ?_ m
 rw[xka]
 unfold xef xc0
 simp(disch:=omega) [mem0,Fo.c,sIxA,asI,s1,s2,xnx,cAp,tR,mkM,clean,show Nat.blt 0 1=true from rfl]
 exact RetF.st rfl rfl
theorem w_before(d:Nat){f g:Fo}(hf:f.fine)(hg:g.fine)(m:Mem):xnu (xnt (d+4)) x46 [.agg f.c,.agg g.c] m=some (B (befB f g),m):=by
 have cp:=λm=>w_compare d (n:=g.n) (e:=g.e) (k:=f.n) (g:=f.e) ⟨hg.n0,hg.n1⟩ ⟨by have:=hg.e0;omega,hg.e1⟩ ⟨hf.n0,hf.n1⟩ ⟨by have:=hf.e0;omega,hf.e1⟩ m
 have f1:=λm=>w_far (d+1) hf m
 have f2:=λm=>w_far (d+1) hg m
 have ci:=λm=>xxr (d+1) f.far g.far m
 refine xo0 rfl ?_ m
 rw[xjv]
 unfold xe1 xba
 simp only[Fo.c]at f1 f2
 simp[mem0,Fo.c,cp,f1,f2,ci]
 generalize hM:Mem.new _ _ _=M
 have g2:M.get (0,0,2)=some (.row [I f.p,I f.q,I f.n,I f.e] 0 false):=by rw[<-hM];simp
 have g3:M.get (0,1,3)=some (.row [I g.p,I g.q,I g.n,I g.e] 0 false):=by rw[<-hM];simp
 have a2:sSlA 2 1 (.ptr (0,0,2) 0 0) none none M=some (.sref (0,0,2) 0 0 2 1 false):=by
  unfold sSlA
  simp[asI,g2]
 have a3:sSlA 2 1 (.ptr (0,1,3) 0 0) none none M=some (.sref (0,1,3) 0 0 2 1 false):=by
  unfold sSlA
  simp[asI,g3]
 have z2:Go.Ix.frz M.get deep (.sref (0,0,2) 0 0 2 1 false)=some (.slit [I f.p,I f.q] 2 false):=xug (k:=4) g2 (by simp) rfl
 have z3:Go.Ix.frz M.get deep (.sref (0,1,3) 0 0 2 1 false)=some (.slit [I g.p,I g.q] 2 false):=xug (k:=4) g3 (by simp) rfl
 obtain⟨r,m',r',k1,k2,k3⟩:=w_sCmp d f.p f.q g.p g.q
 subst k3
 obtain⟨m2,k4,k5⟩:=call0_any (m:=M) (l:=[.sref (0,0,2) 0 0 2 1 false,.sref (0,1,3) 0 0 2 1 false]) (by simp only[x1a9,x1b4,z2,z3];rfl) k1 k2
 have hmk:∀(x y z:Int) (id:Id) (mm:Mem) (k:AV->Mem->O2),xp1 xra [(0,1,I x),(1,1,I y),(2,1,I z)] 3 1 id mm k=k (slI [x,y,z]) mm:=λx y z id mm k=>by
  rw[z_int3];rfl
 have ho:∀(x y z:Int) mm,xnu (xnt (d+3)) x18 [slI [x,y,z]] mm=some (I (orI [x,y,z]),mm):=λx y z mm=>w_Or (d+2) (l:=[x,y,z]) (by simp) mm
 rw[a2,xnz,a3,xnz,k5,xnz]
 simp only[]
 rw[hmk,ho,xnz]
 simp[mkD,mkM,cAp,tR,clean,show Nat.blt 0 1=true from rfl]
 exact RetF.st rfl rfl
end Go.Ix
namespace Go.Ix
open Go.Proofs
variable{a b:AV}{D D2:List Px}{L S L2 S2:Int}
noncomputable def scU(L S:Int)(D:List Px)(L2 S2:Int)(D2:List Px)(x y:Int)(z w:Nat)(p q:Int):(Int×Int)×Int:=
 if xrx L2 S2 x y z w p q=true then
  (if scE (wA L S D x y) w (z*w)=0\/scE (wA L2 S2 D2 (x+p) (y+q)) w (z*w)=0 then((0,0),11)
   else((scN (wA L S D x y) (wA L2 S2 D2 (x+p) (y+q)) w (z*w),scE (wA L S D x y) w (z*w)*scE (wA L2 S2 D2 (x+p) (y+q)) w (z*w)),0))
 else((0,0),26)
noncomputable def scO(L S:Int)(D:List Px)(L2 S2:Int)(D2:List Px)(x y:Int)(z w:Nat)(p q:Int):Option (Int×Int):=
 if(scU L S D L2 S2 D2 x y z w p q).2=0 then some (scU L S D L2 S2 D2 x y z w p q).1 else none
theorem w_scoreU(d:Nat)(ha:Sl pxE a D)(hR:RtI L S D)(hb:Sl pxE b D2)(hR2:RtI L2 S2 D2){x y p q:Int}{z w:Nat}(hz:1<=z/\z<=8)(hw:1<=w/\w<=8)(hx:0<=x/\x<=64)(hy:0<=y/\y<=64)(hp:inW p)(hq:inW q)(m:Mem) :
 xnu (xnt (d+5)) x1i [.agg [I L,I S,a,I L2,I S2,b],.agg [I x,I y,I z,I w],.agg [I p,I q]] m
  = some (.tup [.agg [I (scU L S D L2 S2 D2 x y z w p q).1.1,I (scU L S D L2 S2 D2 x y z w p q).1.2],I (scU L S D L2 S2 D2 x y z w p q).2],m):=by
 unfold scU
 cases c:xrx L2 S2 x y z w p q
 .exact w_scoreB d ha hR hb hR2 (z:=(z:Int)) (w:=(w:Int)) (by omega) (by omega) hx hy hp hq c m
 .rw[w_scoreO d ha hR hb hR2 hz hw hx hy c m]
  by_cases k:scE (wA L S D x y) w (z*w)=0\/scE (wA L2 S2 D2 (x+p) (y+q)) w (z*w)=0
  .simp only[if_pos k,x19o]
  .simp only[if_neg k,x19o]
theorem xsz{x y p q:Int}{z w:Nat}(hR:RtI L S D)(hR2:RtI L2 S2 D2)(hz:z<=8)(hw:w<=8){n e:Int}(h:scO L S D L2 S2 D2 x y z w p q=some (n,e)):0<=n/\0<e/\n<=e/\e<=300000000000000000/\(scU L S D L2 S2 D2 x y z w p q)=((n,e),0):=by
 unfold scO at h
 by_cases c0:(scU L S D L2 S2 D2 x y z w p q).2=0
 rotate_left
 .rw[if_neg c0]at h;cases h
 rw[if_pos c0]at h
 have h1:(scU L S D L2 S2 D2 x y z w p q).1=(n,e):=x1ap h
 have h2:(scU L S D L2 S2 D2 x y z w p q)=((n,e),0):=Prod.ext h1 c0
 refine⟨?_,?_,?_,?_,h2⟩<;>unfold scU at h2
 all_goals
  by_cases c:xrx L2 S2 x y z w p q=true
  rotate_left
  .rw[if_neg c]at h2;cases h2
  rw[if_pos c]at h2
  by_cases k:scE (wA L S D x y) w (z*w)=0\/scE (wA L2 S2 D2 (x+p) (y+q)) w (z*w)=0
  .rw[if_pos k]at h2;cases h2
  rw[if_neg k]at h2
  have hnn:z*w<=64:=x19s (x1a3 hz hw) (by omega)
  obtain⟨q1,q2,q3,q4,q5,q6,q7⟩:=xsx (w:=w) (xry hR x y) (xry hR2 (x+p) (y+q)) hnn
  obtain⟨-,-,r3,r4,-⟩:=xsx (w:=w) (xry hR2 (x+p) (y+q)) (xry hR2 (x+p) (y+q)) hnn
  have hpos:0<scE (wA L S D x y) w (z*w)*scE (wA L2 S2 D2 (x+p) (y+q)) w (z*w):=by
   have k1:scE (wA L S D x y) w (z*w)≠0:=λh=>k (Or.inl h)
   have k2:scE (wA L2 S2 D2 (x+p) (y+q)) w (z*w)≠0:=λh=>k (Or.inr h)
   exact x1b5 (by omega) (by omega)
  simp only[x192,and_true]at h2
  omega
def rowO:Option Fo->List AV
 |none=>[I 0,I 0,I 0,I 0]
 |some f=>f.c
structure BInv (a b:AV) (L S L2 S2 x y:Int) (z w:Nat) (o:Option Fo) (m:Mem):Prop where
 g3:m.get (0,0,3)=some (.row [I L,I S,a,I L2,I S2,b] 0 false)
 g4:m.get (0,1,4)=some (.row [I x,I y,I z,I w] 0 false)
 g6:m.get (0,2,6)=some (.row [I 0,I 0,I 0,I 0] 0 false)
 g8:m.get (0,4,8)=some (.row (rowO o) 0 false)
def seen(R u v p q:Int):Prop:=(-R<=p/\p<=R)/\(-R<=q/\q<=R)/\(p<u\/p=u/\q<v)
theorem xt0:x4t=[I 0,I 0,I 0,I 0]:=by kernel_rfl
theorem xxx(p q n e:Int):xo5 [I 0,I 0,I 0,I 0] [(0,2,.agg [I p,I q]),(2,2,.agg [I n,I e])]=some (.agg [I p,I q,I n,I e]):=rfl
theorem xt1(p q:Int):xo5 [I 0,I 0] [(0,1,I p),(1,1,I q)]=some (.agg [I p,I q]):=rfl
theorem xxy(ha:Sl pxE a D)(hR:RtI L S D)(hb:Sl pxE b D2)(hR2:RtI L2 S2 D2){x y:Int}{z w:Nat}(hz:1<=z/\z<=8)(hw:1<=w/\w<=8)(hx:0<=x/\x<=64)(hy:0<=y/\y<=64){R:Int}(hr:0<=R/\R<=4){p q n e:Int}(hp:-R<=p/\p<=R)(hq:-R<=q/\q<=R)(h:scO L S D L2 S2 D2 x y z w p q=some (n,e)):(⟨p,q,n,e⟩:Fo).fine:=by
 obtain⟨h1,h2,h3,h4,-⟩:=xsz hR hR2 hz.2 hw.2 h
 exact⟨h1,by show n<_;omega,h2,by show e<_;omega,by show -64<=p/\p<=64;omega,by show -64<=q/\q<=64;omega⟩
section
variable(d:Nat)(hs:FHs)(ha:Sl pxE a D)(hR:RtI L S D)(hb:Sl pxE b D2)(hR2:RtI L2 S2 D2){x y:Int}{z w:Nat}(hz:1<=z/\z<=8)(hw:1<=w/\w<=8)(hx:0<=x/\x<=64)(hy:0<=y/\y<=64){R:Int}(hr:0<=R/\R<=4)
include ha hR hb hR2 hz hw hx hy hr
theorem l_best1(rec0:xoo)(u:Int)(hu:-R<=u/\u<=R):∀(n:Nat) (v:Int) (j:Nat) (o:Option Fo) (m:Mem) (fc:Nat),v+n=R+1->-R<=v->n<j->BInv a b L S L2 S2 x y z w o m->BestO (scO L S D L2 S2 D2 x y z w) (seen R u v) o ->
 ∃o' m' fc',x3a (xnt (d+5)) hs 0 rec0 j (I R) (.ptr (0,0,3) 0 0) (.ptr (0,1,4) 0 0) (.ptr (0,2,6) 0 0) (.ptr (0,4,8) 0 0) (B o.isSome) (I u) (I v) m fc
  = x6u (xnt (d+5)) hs 0 rec0 (I R) (.ptr (0,0,3) 0 0) (.ptr (0,1,4) 0 0) (.ptr (0,2,6) 0 0) (.ptr (0,4,8) 0 0) (B o'.isSome) (I u) m' fc'/\BInv a b L S L2 S2 x y z w o' m'/\BestO (scO L S D L2 S2 D2 x y z w) (seen R u (R+1)) o':=by
 intro n
 induction n with
 |zero=>
  intro v j o m fc hv hv2 hj hI hB
  obtain⟨j,rfl⟩:∃i,j=i+1:=⟨j-1,by omega⟩
  have hv3:v=R+1:=by omega
  subst hv3
  have hk:¬(R+1<=R):=by omega
  refine⟨o,m,fc+3,?_,hI,hB⟩
  simp only[x3a]
  conv=>lhs;unfold x39
  simp[hk]
 |succ n ih=>
  intro v j o m fc hv hv2 hj hI hB
  obtain⟨j,rfl⟩:∃i,j=i+1:=⟨j-1,by omega⟩
  have hk:v<=R:=by omega
  obtain⟨g3,g4,g6,g8⟩:=hI
  have sc:=λm=>w_scoreU d ha hR hb hR2 (p:=u) (q:=v) hz hw hx hy (by unfold inW;omega) (by unfold inW;omega) m
  have hcov:∀p q,seen R u v p q\/(p=u/\q=v)↔seen R u (v+1) p q:=λp q=>by unfold seen;omega
  have cont:∀(o':Option Fo) (m1:Mem) (fc1:Nat),BInv a b L S L2 S2 x y z w o' m1->BestO (scO L S D L2 S2 D2 x y z w) (λp q=>seen R u v p q\/(p=u/\q=v)) o' ->
   ∃o'' m' fc',x6v (xnt (d+5)) hs 0 rec0 (x3a (xnt (d+5)) hs 0 rec0 j) (I R) (.ptr (0,0,3) 0 0) (.ptr (0,1,4) 0 0) (.ptr (0,2,6) 0 0) (.ptr (0,4,8) 0 0) (B o'.isSome) (I u) (I v) m1 fc1
    = x6u (xnt (d+5)) hs 0 rec0 (I R) (.ptr (0,0,3) 0 0) (.ptr (0,1,4) 0 0) (.ptr (0,2,6) 0 0) (.ptr (0,4,8) 0 0) (B o''.isSome) (I u) m' fc'/\BInv a b L S L2 S2 x y z w o'' m'/\BestO (scO L S D L2 S2 D2 x y z w) (seen R u (R+1)) o'':=by
   intro o' m1 fc1 h1 h2
   obtain⟨o'',m',fc',e,h3,h4⟩:=ih (v+1) j o' m1 (fc1+3) (by omega) (by omega) (by omega) h1 (h2.congr hcov)
   refine⟨o'',m',fc',?_,h3,h4⟩
   rw[<-e]
   unfold x6v
   simp(disch:=omega) [xnx]
  generalize hX:scU L S D L2 S2 D2 x y z w u v=X at *
  obtain⟨⟨n1,e1⟩,er⟩:=X
  simp only at sc
  obtain⟨M,hM⟩:∃M:Mem,((((m.new (0,fc+3+9,12) (.row [I 0,I 0] 0 false)).set (0,fc+3+9,12) (.row [I n1,I e1] 0 false)).new (0,fc+3+17,14) (.row [I 0,I 0,I 0,I 0] 0 false)).set (0,fc+3+17,14) (.row [I u,I v,I n1,I e1] 0 false))=M:=⟨_,rfl⟩
  have fr:∀id:Id,id.2.2≠12->id.2.2≠14->M.get id=m.get id:=λid h h'=>by
   rw[<-hM,Mem.get_set_ne (by rintro rfl;exact h' rfl),Mem.get_new_ne (by rintro rfl;exact h' rfl),Mem.get_set_ne (by rintro rfl;exact h rfl),Mem.get_new_ne (by rintro rfl;exact h rfl)]
  have G14:M.get (0,fc+3+17,14)=some (.row [I u,I v,I n1,I e1] 0 false):=by rw[<-hM];simp
  have G8:M.get (0,4,8)=some (.row (rowO o) 0 false):=by rw[fr _ (by decide) (by decide)];exact g8
  have hIM:BInv a b L S L2 S2 x y z w o M:=⟨by rw[fr _ (by decide) (by decide)];exact g3,by rw[fr _ (by decide) (by decide)];exact g4,by rw[fr _ (by decide) (by decide)];exact g6,G8⟩
  have hIt:BInv a b L S L2 S2 x y z w (some ⟨u,v,n1,e1⟩) (M.set (0,4,8) (.row [I u,I v,I n1,I e1] 0 false)):=⟨by rw[Mem.get_set_ne (by decide)];exact hIM.g3,by rw[Mem.get_set_ne (by decide)];exact hIM.g4,by rw[Mem.get_set_ne (by decide)];exact hIM.g6,by simp[rowO,Fo.c]⟩
  simp only[x3a]
  by_cases c0:er=0
  rotate_left
  .have hno:scO L S D L2 S2 D2 x y z w u v=none:=by unfold scO;rw[hX,if_neg c0]
   obtain⟨o'',m',fc',e,h3,h4⟩:=cont o M (fc+3+30) hIM (hB.skip hno)
   refine⟨o'',m',fc',?_,h3,h4⟩
   rw[<-e]
   conv=>lhs;unfold x39 x5b
   simp[hk,g3,g4,xp5,xt1,sc,xrb,xny,xt0,xxx,c0]
   rw[hM]
  subst c0
  have hyes:scO L S D L2 S2 D2 x y z w u v=some (n1,e1):=by unfold scO;rw[hX,if_pos rfl]
  have hfn:=xxy ha hR hb hR2 hz hw hx hy hr (p:=u) (q:=v) hu ⟨hv2,hk⟩ hyes
  cases o with
  |none=>
   obtain⟨o'',m',fc',e,h3,h4⟩:=cont (some ⟨u,v,n1,e1⟩) (M.set (0,4,8) (.row [I u,I v,I n1,I e1] 0 false)) (fc+3+33) hIt (hB.first hyes)
   refine⟨o'',m',fc',?_,h3,h4⟩
   rw[<-e]
   conv=>lhs;unfold x39 x5b
   simp[hk,g3,g4,xp5,xt1,sc,xrb,xny,xt0,xxx]
   rw[hM]
   simp[G14,G8,g8,rowO]
  |some f=>
   have hff:f.fine:=by
    obtain⟨h1,h2,h3⟩:=Best.own hB
    exact xxy ha hR hb hR2 hz hw hx hy hr (p:=f.p) (q:=f.q) h1 h2 (Best.hs hB)
   have bb:=λm=>w_before (d+1) hfn hff m
   simp only[Fo.c]at bb
   cases hbe:befB ⟨u,v,n1,e1⟩ f
   .have hnb:¬befF ⟨u,v,n1,e1⟩ f:=λh=>by rw[(x143 hfn hff).mpr h]at hbe;cases hbe
    obtain⟨o'',m',fc',e,h3,h4⟩:=cont (some f) M (fc+3+30) hIM (BestO.keep hB hyes hnb)
    refine⟨o'',m',fc',?_,h3,h4⟩
    rw[<-e]
    conv=>lhs;unfold x39 x5b
    simp[hk,g3,g4,xp5,xt1,sc,xrb,xny,xt0,xxx]
    rw[hM]
    simp[G14,G8,g8,rowO,Fo.c,bb,hbe]
   .have hb':befF ⟨u,v,n1,e1⟩ f:=(x143 hfn hff).mp hbe
    obtain⟨o'',m',fc',e,h3,h4⟩:=cont (some ⟨u,v,n1,e1⟩) (M.set (0,4,8) (.row [I u,I v,I n1,I e1] 0 false)) (fc+3+33) hIt (BestO.take (λp q n e h=>by have:=xsz hR hR2 hz.2 hw.2 h;exact⟨this.1,this.2.1⟩) hB hyes hb')
    refine⟨o'',m',fc',?_,h3,h4⟩
    rw[<-e]
    conv=>lhs;unfold x39 x5b
    simp[hk,g3,g4,xp5,xt1,sc,xrb,xny,xt0,xxx]
    rw[hM]
    simp[G14,G8,g8,rowO,Fo.c,bb,hbe]
theorem l_best0:∀(n:Nat) (u:Int) (j:Nat) (o:Option Fo) (m:Mem) (fc:Nat),u+n=R+1->-R<=u->n<j->BInv a b L S L2 S2 x y z w o m->BestO (scO L S D L2 S2 D2 x y z w) (seen R u (-R)) o ->
 ∃o' m',x1x (xnt (d+5)) hs 0 j (I R) (.ptr (0,0,3) 0 0) (.ptr (0,1,4) 0 0) (.ptr (0,2,6) 0 0) (.ptr (0,4,8) 0 0) (B o.isSome) (I u) m fc=some (.tup [.agg (rowO o'),B o'.isSome],m')/\BestO (scO L S D L2 S2 D2 x y z w) (seen R (R+1) (-R)) o':=by
 intro n
 induction n with
 |zero=>
  intro u j o m fc hv hv2 hj hI hB
  obtain⟨j,rfl⟩:∃i,j=i+1:=⟨j-1,by omega⟩
  have hv3:u=R+1:=by omega
  subst hv3
  have hk:¬(R+1<=R):=by omega
  obtain⟨g3,g4,g6,g8⟩:=hI
  refine⟨o,m.set (0,2,6) (.row (rowO o) 0 false),?_,hB⟩
  simp only[x1x]
  unfold x9q xgq
  cases o with
  |none=>simp[hk,g8,g6,rowO,sLdP]
  |some f=>simp[hk,g8,g6,rowO,Fo.c,sLdP]
 |succ n ih=>
  intro u j o m fc hv hv2 hj hI hB
  obtain⟨j,rfl⟩:∃i,j=i+1:=⟨j-1,by omega⟩
  have hk:u<=R:=by omega
  obtain⟨o1,m1,fc1,e1,hI1,hB1⟩:=l_best1 d hs ha hR hb hR2 hz hw hx hy hr (x1x (xnt (d+5)) hs 0 j) u ⟨hv2,hk⟩ (2*R+1).toNat (-R) NN o m (fc+3+3) (by omega) (by omega) (by rw[xo8];omega) hI hB
  obtain⟨o',m',e,hB'⟩:=ih (u+1) j o1 m1 (fc1+3) (by omega) (by omega) (by omega) hI1 (hB1.congr λp q=>by unfold seen;omega)
  refine⟨o',m',?_,hB'⟩
  rw[<-e]
  simp only[x1x]
  unfold x9q xgr
  simp(disch:=omega) [hk,xnx]
  rw[e1]
  unfold x6u
  simp(disch:=omega) [xnx]
def grid(R p q:Int):Prop:=(-R<=p/\p<=R)/\(-R<=q/\q<=R)
theorem w_best:∃o,BestO (scO L S D L2 S2 D2 x y z w) (grid R) o/\∀m,xnu (xnt (d+6)) x3s [.agg [I L,I S,a,I L2,I S2,b],.agg [I x,I y,I z,I w],I R] m=some (.tup [.agg (rowO o),B o.isSome],m):=by
 obtain⟨M,hM⟩:∃M:Mem,(((((⟨[],1⟩:Mem).new (0,0,3) (.row [I L,I S,a,I L2,I S2,b] 0 false)).new (0,1,4) (.row [I x,I y,I z,I w] 0 false)).new (0,2,6) (.row [I 0,I 0,I 0,I 0] 0 false)).new (0,4,8) (.row [I 0,I 0,I 0,I 0] 0 false))=M:=⟨_,rfl⟩
 have hI:BInv a b L S L2 S2 x y z w none M:=⟨by rw[<-hM];simp,by rw[<-hM];simp,by rw[<-hM];simp,by rw[<-hM];simp[rowO]⟩
 obtain⟨o',m',e,hB'⟩:=l_best0 d [] ha hR hb hR2 hz hw hx hy hr (2*R+1).toNat (-R) NN none M 9 (by omega) (by omega) (by rw[xo8];omega) hI (λp q h=>by unfold seen at h;omega)
 refine⟨o',hB'.congr λp q=>by unfold seen grid;omega,λm=>xo0 (by simp[ha.still1,hb.still1]) ?_ m⟩
 rw[xja]
 unfold xdg x9r
 simp[mem0,ha.one,hb.one,xny,xt0]
 rw[hM]
 unfold xgs
 have e':x1x (xnt (d+5)) [] 0 NN (I R) (.ptr (0,0,3) 0 0) (.ptr (0,1,4) 0 0) (.ptr (0,2,6) 0 0) (.ptr (0,4,8) 0 0) (B false) (I (-R)) M 9=_:=e
 simp(disch:=omega) [xnx]
 rw[e']
 refine RetF.tup ?_ rfl
 cases o'<;>rfl
end
end Go.Ix
namespace Go.Ix
open Go.Proofs
variable{a b:AV}{D D2:List Px}{L S L2 S2:Int}
theorem scM_U(x y:Int)(z w:Nat)(p q:Int):(scM L S D L2 S2 D2 x y z w p q).2=(scU L S D L2 S2 D2 x y z w p q).2/\((scU L S D L2 S2 D2 x y z w p q).2=0->(scM L S D L2 S2 D2 x y z w p q).1=lowN (scU L S D L2 S2 D2 x y z w p q).1.1 (scU L S D L2 S2 D2 x y z w p q).1.2):=by
 unfold scM scU
 by_cases c:xrx L2 S2 x y z w p q=true
 .rw[if_pos c,if_pos c]
  by_cases k:scE (wA L S D x y) w (z*w)=0\/scE (wA L2 S2 D2 (x+p) (y+q)) w (z*w)=0
  .rw[if_pos k,if_pos k];exact⟨rfl,λh=>absurd h (by decide)⟩
  .rw[if_neg k,if_neg k];exact⟨rfl,λ_=>rfl⟩
 .rw[if_neg c,if_neg c];exact⟨rfl,λh=>absurd h (by decide)⟩
theorem xty{n e:Int}(h0:0<=n)(he:0<e):∃g:Int,0<g/\n=g*(lowN n e).1/\e=g*(lowN n e).2/\0<=(lowN n e).1/\(lowN n e).1<=n/\0<(lowN n e).2/\(lowN n e).2<=e:=by
 have hg:0<Int.gcd n e:=Int.gcd_pos_of_ne_zero_right n (by omega)
 have hg':(0:Int)<(Int.gcd n e:Int):=by omega
 have e1:n.tdiv (Int.gcd n e:Int)=n / (Int.gcd n e:Int):=Int.tdiv_eq_ediv_of_nonneg h0
 have e2:e.tdiv (Int.gcd n e:Int)=e / (Int.gcd n e:Int):=Int.tdiv_eq_ediv_of_nonneg (by omega)
 have d1:(Int.gcd n e:Int) ∣ n:=Int.gcd_dvd_left ..
 have d2:(Int.gcd n e:Int) ∣ e:=Int.gcd_dvd_right ..
 refine⟨(Int.gcd n e:Int),hg',?_,?_,?_,?_,?_,?_⟩<;>unfold lowN<;>simp only[e1,e2]
 .exact(Int.mul_ediv_cancel' d1).symm
 .exact(Int.mul_ediv_cancel' d2).symm
 .exact Int.ediv_nonneg h0 (by omega)
 .exact Int.ediv_le_self _ h0
 .exact Int.ediv_pos_of_pos_of_dvd he (by omega) d2
 .exact Int.ediv_le_self _ (by omega)
theorem low_cross{n e n' e':Int}(h0:0<=n)(he:0<e)(h0':0<=n')(he':0<e'):((lowN n' e').1*(lowN n e).2<(lowN n e).1*(lowN n' e').2↔n'*e<n*e'):=by
 obtain⟨g,hg,q1,q2,-⟩:=xty h0 he
 obtain⟨g',hg',q3,q4,-⟩:=xty h0' he'
 generalize (lowN n e).1=x0 at *
 generalize (lowN n e).2=x1 at *
 generalize (lowN n' e').1=b0 at *
 generalize (lowN n' e').2=b1 at *
 have hgg:0<g*g':=x1b5 hg hg'
 have k1:n'*e=b0*x1*(g*g'):=by rw[q3,q2];grind
 have k2:n*e'=x0*b1*(g*g'):=by rw[q1,q4];grind
 rw[k1,k2]
 constructor
 .intro h;exact Int.mul_lt_mul_of_pos_right h hgg
 .intro h;exact Int.lt_of_mul_lt_mul_right h (Int.le_of_lt hgg)
def byO:Option Fo->List AV
 |none=>[I 0,I 0]
 |some f=>[I f.p,I f.q]
def loO:Option Fo->List AV
 |none=>[I 0,I 0]
 |some f=>[I (lowN f.n f.e).1,I (lowN f.n f.e).2]
structure RBv (a b:AV) (L S L2 S2 x y:Int) (z w:Nat) (o:Option Fo) (m:Mem):Prop where
 g3:m.get (0,0,3)=some (.row [I L,I S,a,I L2,I S2,b] 0 false)
 g4:m.get (0,1,4)=some (.row [I x,I y,I z,I w] 0 false)
 g6:m.get (0,2,6)=some (.row [I 0,I 0] 0 false)
 g7:m.get (0,3,7)=some (.row [I 0,I 0] 0 false)
 g9:m.get (0,5,9)=some (.row (byO o) 0 false)
 g10:m.get (0,6,10)=some (.row (loO o) 0 false)
def xpz(R s u v p q:Int):Prop:=grid R p q/\((p.natAbs:Int)+q.natAbs<s\/(p.natAbs:Int)+q.natAbs=s/\(p<u\/p=u/\q<v))
section
variable(d:Nat)(hs:FHs)(ha:Sl pxE a D)(hR:RtI L S D)(hb:Sl pxE b D2)(hR2:RtI L2 S2 D2){x y:Int}{z w:Nat}(hz:1<=z/\z<=8)(hw:1<=w/\w<=8)(hx:0<=x/\x<=64)(hy:0<=y/\y<=64){R:Int}(hr:0<=R/\R<=4)
include ha hR hb hR2 hz hw hx hy hr
theorem l_rb2(rec0:xob)(rec1:xp6)(s u:Int)(hu:-R<=u/\u<=R):∀(n:Nat) (v:Int) (j:Nat) (o:Option Fo) (m:Mem) (fc:Nat),v+n=R+1->-R<=v->n<j->RBv a b L S L2 S2 x y z w o m->BestO (scO L S D L2 S2 D2 x y z w) (xpz R s u v) o ->
 ∃o' m' fc',x3g (xnt (d+4)) hs 0 rec0 rec1 j (I R) (.ptr (0,0,3) 0 0) (.ptr (0,1,4) 0 0) (.ptr (0,2,6) 0 0) (.ptr (0,3,7) 0 0) (.ptr (0,5,9) 0 0) (.ptr (0,6,10) 0 0) (B o.isSome) (I s) (I u) (I v) m fc
  = x76 (xnt (d+4)) hs 0 rec0 rec1 (I R) (.ptr (0,0,3) 0 0) (.ptr (0,1,4) 0 0) (.ptr (0,2,6) 0 0) (.ptr (0,3,7) 0 0) (.ptr (0,5,9) 0 0) (.ptr (0,6,10) 0 0) (B o'.isSome) (I s) (I u) m' fc'/\RBv a b L S L2 S2 x y z w o' m'/\BestO (scO L S D L2 S2 D2 x y z w) (xpz R s u (R+1)) o':=by
 intro n
 induction n with
 |zero=>
  intro v j o m fc hv hv2 hj hI hB
  obtain⟨j,rfl⟩:∃i,j=i+1:=⟨j-1,by omega⟩
  have hv3:v=R+1:=by omega
  subst hv3
  have hk:¬(R+1<=R):=by omega
  refine⟨o,m,fc+3,?_,hI,hB⟩
  simp only[x3g]
  conv=>lhs;unfold x21
  simp[hk]
 |succ n ih=>
  intro v j o m fc hv hv2 hj hI hB
  obtain⟨j,rfl⟩:∃i,j=i+1:=⟨j-1,by omega⟩
  have hk:v<=R:=by omega
  obtain⟨g3,g4,g6,g7,g9,g10⟩:=hI
  have su:=λm=>xvj (d+3) u m (by omega) (by omega)
  have sv:=λm=>xvj (d+3) v m (by omega) (by omega)
  have cont:∀(o':Option Fo) (m1:Mem) (fc1:Nat),RBv a b L S L2 S2 x y z w o' m1->BestO (scO L S D L2 S2 D2 x y z w) (xpz R s u (v+1)) o' ->
   ∃o'' m' fc',x5g (xnt (d+4)) hs 0 rec0 rec1 (x3g (xnt (d+4)) hs 0 rec0 rec1 j) (I R) (.ptr (0,0,3) 0 0) (.ptr (0,1,4) 0 0) (.ptr (0,2,6) 0 0) (.ptr (0,3,7) 0 0) (.ptr (0,5,9) 0 0) (.ptr (0,6,10) 0 0) (B o'.isSome) (I s) (I u) (I v) m1 fc1
    = x76 (xnt (d+4)) hs 0 rec0 rec1 (I R) (.ptr (0,0,3) 0 0) (.ptr (0,1,4) 0 0) (.ptr (0,2,6) 0 0) (.ptr (0,3,7) 0 0) (.ptr (0,5,9) 0 0) (.ptr (0,6,10) 0 0) (B o''.isSome) (I s) (I u) m' fc'/\RBv a b L S L2 S2 x y z w o'' m'/\BestO (scO L S D L2 S2 D2 x y z w) (xpz R s u (R+1)) o'':=by
   intro o' m1 fc1 h1 h2
   obtain⟨o'',m',fc',e,h3,h4⟩:=ih (v+1) j o' m1 (fc1+3) (by omega) (by omega) (by omega) h1 h2
   refine⟨o'',m',fc',?_,h3,h4⟩
   rw[<-e]
   conv=>lhs;unfold x5g
   simp(disch:=omega) [xnx]
  simp only[x3g]
  by_cases cs:(u.natAbs:Int)+v.natAbs=s
  rotate_left
  .obtain⟨o'',m',fc',e,h3,h4⟩:=cont o m (fc+3+7) ⟨g3,g4,g6,g7,g9,g10⟩ (hB.congr λp q=>by unfold xpz grid;omega)
   refine⟨o'',m',fc',?_,h3,h4⟩
   rw[<-e]
   conv=>lhs;unfold x21 x3f
   simp(disch:=omega) [hk,su,sv,xnx,cs]
  have hcov:∀p q,xpz R s u v p q\/(p=u/\q=v)↔xpz R s u (v+1) p q:=λp q=>by unfold xpz grid;omega
  have sc:=λm=>w_rScore (p:=u) (q:=v) d ha hR hb hR2 hz hw hx hy m
  obtain⟨k1,k2⟩:=scM_U (L:=L) (S:=S) (D:=D) (L2:=L2) (S2:=S2) (D2:=D2) x y z w u v
  generalize hX:scU L S D L2 S2 D2 x y z w u v=X at *
  generalize scM L S D L2 S2 D2 x y z w u v=Y at *
  obtain⟨⟨n1,e1⟩,er⟩:=X
  obtain⟨⟨y1,y2⟩,yr⟩:=Y
  simp only at sc k1 k2
  subst k1
  obtain⟨M,hM⟩:∃M:Mem,((m.new (0,fc+3+16,15) (.row [I 0,I 0] 0 false)).set (0,fc+3+16,15) (.row [I y1,I y2] 0 false))=M:=⟨_,rfl⟩
  have fr:∀id:Id,id.2.2≠15->M.get id=m.get id:=λid h=>by
   rw[<-hM,Mem.get_set_ne (by rintro rfl;exact h rfl),Mem.get_new_ne (by rintro rfl;exact h rfl)]
  have G15:M.get (0,fc+3+16,15)=some (.row [I y1,I y2] 0 false):=by rw[<-hM];simp
  have hIM:RBv a b L S L2 S2 x y z w o M:=⟨by rw[fr _ (by decide)];exact g3,by rw[fr _ (by decide)];exact g4,by rw[fr _ (by decide)];exact g6,by rw[fr _ (by decide)];exact g7,by rw[fr _ (by decide)];exact g9,by rw[fr _ (by decide)];exact g10⟩
  have G9:=hIM.g9
  have G10:=hIM.g10
  by_cases c0:yr=0
  rotate_left
  .have hno:scO L S D L2 S2 D2 x y z w u v=none:=by unfold scO;rw[hX,if_neg c0]
   obtain⟨o'',m',fc',e,h3,h4⟩:=cont o M (fc+3+37) hIM ((hB.skip hno).congr hcov)
   refine⟨o'',m',fc',?_,h3,h4⟩
   rw[<-e]
   conv=>lhs;unfold x21 x3f
   simp(disch:=omega) [hk,su,sv,xnx,cs,g3,g4,xp5,xt1,sc,xny,c0]
   simp only[x1an,xnz]
   simp[c0]
   rw[hM]
  subst c0
  have hy12:=k2 rfl
  have hy1:y1=(lowN n1 e1).1:=congrArg Prod.fst hy12
  have hy2:y2=(lowN n1 e1).2:=congrArg Prod.snd hy12
  have hyes:scO L S D L2 S2 D2 x y z w u v=some (n1,e1):=by unfold scO;rw[hX,if_pos rfl]
  have hfn:=xxy ha hR hb hR2 hz hw hx hy hr (p:=u) (q:=v) hu ⟨hv2,hk⟩ hyes
  have hbd:=xsz hR hR2 hz.2 hw.2 hyes
  have hIt:RBv a b L S L2 S2 x y z w (some ⟨u,v,n1,e1⟩) ((M.set (0,5,9) (.row [I u,I v] 0 false)).set (0,6,10) (.row [I y1,I y2] 0 false)):=by
   obtain⟨j3,j4,j6,j7,j9,j10⟩:=hIM
   refine⟨?_,?_,?_,?_,?_,?_⟩
   .rw[Mem.get_set_ne (by decide),Mem.get_set_ne (by decide)];exact j3
   .rw[Mem.get_set_ne (by decide),Mem.get_set_ne (by decide)];exact j4
   .rw[Mem.get_set_ne (by decide),Mem.get_set_ne (by decide)];exact j6
   .rw[Mem.get_set_ne (by decide),Mem.get_set_ne (by decide)];exact j7
   .rw[Mem.get_set_ne (by decide),Mem.get_set_same];rfl
   .rw[Mem.get_set_same,hy1,hy2];rfl
  have n915:∀k:Nat,((0,5,9):Id)≠(0,k,15):=λk h=>by cases h
  cases o with
  |none=>
   obtain⟨o'',m',fc',e,h3,h4⟩:=cont (some ⟨u,v,n1,e1⟩) _ (fc+3+44) hIt ((hB.first hyes).congr hcov)
   refine⟨o'',m',fc',?_,h3,h4⟩
   rw[<-e]
   conv=>lhs;unfold x21 x3f
   simp(disch:=omega) [hk,su,sv,xnx,cs,g3,g4,xp5,xt1,sc,xny]
   simp only[x1an,xnz]
   simp
   rw[hM]
   simp[G15,G9,G10,g9,g10,byO,loO,tR,tS,xoa,disj]
  |some f=>
   have hff:f.fine:=by
    obtain⟨⟨h1,h2⟩,h3⟩:=Best.own hB
    exact xxy ha hR hb hR2 hz hw hx hy hr (p:=f.p) (q:=f.q) h1 h2 (Best.hs hB)
   have hbf:=xsz hR hR2 hz.2 hw.2 (Best.hs hB)
   obtain⟨-,-,-,-,l1,l2,l3,l4⟩:=xty hbd.1 hbd.2.1
   obtain⟨-,-,-,-,m1,m2,m3,m4⟩:=xty hbf.1 hbf.2.1
   have hcr:=low_cross hbd.1 hbd.2.1 hbf.1 hbf.2.1
   have cmpf:=λmm=>xxw (d+2) (n:=y1) (e:=y2) (m:=(lowN f.n f.e).1) (k:=(lowN f.n f.e).2) (by rw[hy1];omega) (by rw[hy2];omega) (by omega) (by omega) mm
   by_cases cg:f.n*e1<n1*f.e
   .have hpos:cmpI (y1*(lowN f.n f.e).2) ((lowN f.n f.e).1*y2)=1:=xw3 (by rw[hy1,hy2];exact hcr.mpr cg)
    obtain⟨o'',m',fc',e,h3,h4⟩:=cont (some ⟨u,v,n1,e1⟩) _ (fc+3+44) hIt ((BestO.take (λp q n e h=>by have:=xsz hR hR2 hz.2 hw.2 h;exact⟨this.1,this.2.1⟩) hB hyes (Or.inl cg)).congr hcov)
    refine⟨o'',m',fc',?_,h3,h4⟩
    rw[<-e]
    conv=>lhs;unfold x21 x3f
    simp(disch:=omega) [hk,su,sv,xnx,cs,g3,g4,xp5,xt1,sc,xny]
    simp only[x1an,xnz]
    simp
    rw[hM]
    simp[G15,G9,G10,g9,g10,byO,loO,tR,tS,xoa,disj,sIxA,asI,cmpf,hpos]
   .have hnp:¬cmpI (y1*(lowN f.n f.e).2) ((lowN f.n f.e).1*y2) > 0:=by
     have:¬(lowN f.n f.e).1*y2<y1*(lowN f.n f.e).2:=λh=>cg (by rw[hy1,hy2]at h;exact hcr.mp h)
     unfold cmpI
     split<;>omega
    have hkeep:¬befF ⟨u,v,n1,e1⟩ f:=by
     obtain⟨h1,h2⟩:=Best.own hB
     unfold befF Fo.far
     simp only
     omega
    obtain⟨o'',m',fc',e,h3,h4⟩:=cont (some f) M (fc+3+37) hIM ((BestO.keep hB hyes hkeep).congr hcov)
    refine⟨o'',m',fc',?_,h3,h4⟩
    rw[<-e]
    conv=>lhs;unfold x21 x3f
    simp(disch:=omega) [hk,su,sv,xnx,cs,g3,g4,xp5,xt1,sc,xny]
    simp only[x1an,xnz]
    simp
    rw[hM]
    simp[G15,G9,G10,g9,g10,byO,loO,tR,tS,xoa,disj,sIxA,asI,cmpf,hnp]
theorem l_rb1(rec0:xob)(s:Int):∀(n:Nat) (u:Int) (j:Nat) (o:Option Fo) (m:Mem) (fc:Nat),u+n=R+1->-R<=u->n<j->RBv a b L S L2 S2 x y z w o m->BestO (scO L S D L2 S2 D2 x y z w) (xpz R s u (-R)) o ->
 ∃o' m' fc',x3h (xnt (d+4)) hs 0 rec0 j (I R) (.ptr (0,0,3) 0 0) (.ptr (0,1,4) 0 0) (.ptr (0,2,6) 0 0) (.ptr (0,3,7) 0 0) (.ptr (0,5,9) 0 0) (.ptr (0,6,10) 0 0) (B o.isSome) (I s) (I u) m fc
  = xac (xnt (d+4)) hs 0 rec0 (I R) (.ptr (0,0,3) 0 0) (.ptr (0,1,4) 0 0) (.ptr (0,2,6) 0 0) (.ptr (0,3,7) 0 0) (.ptr (0,5,9) 0 0) (.ptr (0,6,10) 0 0) (B o'.isSome) (I s) m' fc'/\RBv a b L S L2 S2 x y z w o' m'/\BestO (scO L S D L2 S2 D2 x y z w) (xpz R s (R+1) (-R)) o':=by
 intro n
 induction n with
 |zero=>
  intro u j o m fc hv hv2 hj hI hB
  obtain⟨j,rfl⟩:∃i,j=i+1:=⟨j-1,by omega⟩
  have hv3:u=R+1:=by omega
  subst hv3
  have hk:¬(R+1<=R):=by omega
  refine⟨o,m,fc+3,?_,hI,hB⟩
  simp only[x3h]
  conv=>lhs;unfold xad
  simp[hk]
 |succ n ih=>
  intro u j o m fc hv hv2 hj hI hB
  obtain⟨j,rfl⟩:∃i,j=i+1:=⟨j-1,by omega⟩
  have hk:u<=R:=by omega
  obtain⟨o1,m1,fc1,e1,hI1,hB1⟩:=l_rb2 d hs ha hR hb hR2 hz hw hx hy hr rec0 (x3h (xnt (d+4)) hs 0 rec0 j) s u ⟨hv2,hk⟩ (2*R+1).toNat (-R) NN o m (fc+3+3) (by omega) (by omega) (by rw[xo8];omega) hI hB
  obtain⟨o',m',fc',e,hI',hB'⟩:=ih (u+1) j o1 m1 (fc1+3) (by omega) (by omega) (by omega) hI1 (hB1.congr λp q=>by unfold xpz grid;omega)
  refine⟨o',m',fc',?_,hI',hB'⟩
  rw[<-e]
  simp only[x3h]
  conv=>lhs;unfold xad xh7
  simp(disch:=omega) [hk,xnx]
  rw[e1]
  conv=>lhs;unfold x76
  simp(disch:=omega) [xnx]
theorem l_rb0:∀(n:Nat) (s:Int) (j:Nat) (o:Option Fo) (m:Mem) (fc:Nat),s+n=2*R+1->0<=s->n<j->RBv a b L S L2 S2 x y z w o m->BestO (scO L S D L2 S2 D2 x y z w) (xpz R s (-R) (-R)) o ->
 ∃o' m' fc',x22 (xnt (d+4)) hs 0 j (I R) (.ptr (0,0,3) 0 0) (.ptr (0,1,4) 0 0) (.ptr (0,2,6) 0 0) (.ptr (0,3,7) 0 0) (.ptr (0,5,9) 0 0) (.ptr (0,6,10) 0 0) (B o.isSome) (I s) m fc
  = xab (xnt (d+4)) hs 0 (.ptr (0,2,6) 0 0) (.ptr (0,3,7) 0 0) (.ptr (0,5,9) 0 0) (.ptr (0,6,10) 0 0) (B o'.isSome) m' fc'/\RBv a b L S L2 S2 x y z w o' m'/\BestO (scO L S D L2 S2 D2 x y z w) (xpz R (2*R+1) (-R) (-R)) o':=by
 intro n
 induction n with
 |zero=>
  intro s j o m fc hv hv2 hj hI hB
  obtain⟨j,rfl⟩:∃i,j=i+1:=⟨j-1,by omega⟩
  have hv3:s=2*R+1:=by omega
  subst hv3
  have hk:¬(2*R+1<=2*R):=by omega
  refine⟨o,m,fc+4,?_,hI,hB⟩
  simp only[x22]
  conv=>lhs;unfold xae
  simp(disch:=omega) [hk,xnx]
 |succ n ih=>
  intro s j o m fc hv hv2 hj hI hB
  obtain⟨j,rfl⟩:∃i,j=i+1:=⟨j-1,by omega⟩
  have hk:s<=2*R:=by omega
  obtain⟨o1,m1,fc1,e1,hI1,hB1⟩:=l_rb1 d hs ha hR hb hR2 hz hw hx hy hr (x22 (xnt (d+4)) hs 0 j) s (2*R+1).toNat (-R) NN o m (fc+4+3) (by omega) (by omega) (by rw[xo8];omega) hI hB
  obtain⟨o',m',fc',e,hI',hB'⟩:=ih (s+1) j o1 m1 (fc1+3) (by omega) (by omega) (by omega) hI1 (hB1.congr λp q=>by unfold xpz grid;omega)
  refine⟨o',m',fc',?_,hI',hB'⟩
  rw[<-e]
  simp only[x22]
  conv=>lhs;unfold xae xh8
  simp(disch:=omega) [hk,xnx]
  rw[e1]
  conv=>lhs;unfold xac
  simp(disch:=omega) [xnx]
theorem w_rBest:∃o,BestO (scO L S D L2 S2 D2 x y z w) (grid R) o/\∀m,xnu (xnt (d+5)) x3z [.agg [I L,I S,a,I L2,I S2,b],.agg [I x,I y,I z,I w],I R] m=some (.tup [.agg (byO o),.agg (loO o),B o.isSome],m):=by
 obtain⟨M,hM⟩:∃M:Mem,(((((((⟨[],1⟩:Mem).new (0,0,3) (.row [I L,I S,a,I L2,I S2,b] 0 false)).new (0,1,4) (.row [I x,I y,I z,I w] 0 false)).new (0,2,6) (.row [I 0,I 0] 0 false)).new (0,3,7) (.row [I 0,I 0] 0 false)).new (0,5,9) (.row [I 0,I 0] 0 false)).new (0,6,10) (.row [I 0,I 0] 0 false))=M:=⟨_,rfl⟩
 have hI:RBv a b L S L2 S2 x y z w none M:=⟨by rw[<-hM];simp,by rw[<-hM];simp,by rw[<-hM];simp,by rw[<-hM];simp,by rw[<-hM];simp[byO],by rw[<-hM];simp[loO]⟩
 obtain⟨o',m',fc',e,hI',hB'⟩:=l_rb0 d [] ha hR hb hR2 hz hw hx hy hr (2*R+1).toNat 0 NN none M 9 (by omega) (by omega) (by rw[xo8];omega) hI (λp q h=>by unfold xpz grid at h;omega)
 refine⟨o',hB'.congr λp q=>by unfold xpz grid;omega,λm=>xo0 (by simp[ha.still1,hb.still1]) ?_ m⟩
 rw[xji]
 unfold xdo xaf
 simp[mem0,ha.one,hb.one,xny,xp5]
 rw[hM]
 unfold xh9
 have e':x22 (xnt (d+4)) [] 0 NN (I R) (.ptr (0,0,3) 0 0) (.ptr (0,1,4) 0 0) (.ptr (0,2,6) 0 0) (.ptr (0,3,7) 0 0) (.ptr (0,5,9) 0 0) (.ptr (0,6,10) 0 0) (B false) (I 0) M 9=_:=e
 rw[e']
 unfold xab
 obtain⟨-,-,j6,j7,j9,j10⟩:=hI'
 cases o' with
 |none=>
  simp[j6,j7,j9,j10,byO,loO,tR,tS,xoa,disj,sLdP]
  exact RetF.tup rfl rfl
 |some f=>
  simp[j6,j7,j9,j10,byO,loO,tR,tS,xoa,disj,sLdP]
  exact RetF.tup rfl rfl
end
end Go.Ix
