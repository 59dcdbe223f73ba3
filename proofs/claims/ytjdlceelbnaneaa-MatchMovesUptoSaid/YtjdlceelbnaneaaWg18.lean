import Derived.Test.YtjdlceelbnaneaaWg7
import Derived.Test.YtjdlceelbnaneaaWg17
set_option linter.unusedSimpArgs false
set_option linter.unusedVariables false
set_option exponentiation.threshold 3000
namespace Go.Ix
open Ieee
theorem sg_self(n:Int):sg (decide (n<0)) n.natAbs=n:=by
 unfold sg
 by_cases h:n<0
 .simp[h];omega
 .simp[h];omega
open Go.Proofs Ieee
def tabR(s:Bool)(N:Nat):Bool:=match single.read (single.nearest s N 0)with
 | .number t m e=>(t == s)&&(Nat.beq (m*2 ^ (e+149).toNat) (N*2 ^ 149)&&decide (-149<=e))
 |_=>false
theorem tabR_all:((List.range 2048).all λN=>tabR false N&&tabR true N)=true:=by kernel_rfl
theorem tabR_ok{s:Bool}{N:Nat}(h:N<2048):∃m e,single.read (single.nearest s N 0)=.number s m e/\sv m e=N*2 ^ 1074:=by
 have h1:=xlh.mp tabR_all N (xlw.mpr h)
 rw[xlf]at h1
 have h2:tabR s N=true:=by
  cases s
  .exact h1.1
  .exact h1.2
 unfold tabR at h2
 split at h2
 .rename_i t m e hr
  rw[xlf,xlf]at h2
  obtain⟨a,b,c⟩:=h2
  have ht:t=s:=by simpa using a
  subst ht
  refine⟨m,e,hr,?_⟩
  have hb:=xlk b
  have hc:-149<=e:=xmq c
  unfold sv
  rw[show(e+1074).toNat=(e+149).toNat+925 by omega,Nat.pow_add,<-Nat.mul_assoc,hb,Nat.mul_assoc,<-Nat.pow_add]
 .cases h2
theorem xe6{n:Int}(h:bd n 2047):RtP (f32w n)/\val (f32w n)=n:=by
 unfold bd at h
 obtain⟨m,e,h1,h2⟩:=tabR_ok (s:=decide (n<0)) (N:=n.natAbs) (by omega)
 have hf:fcs (f32w n)=.num (decide (n<0)) (n.natAbs*2 ^ 1074):=by
  unfold fcs
  rw[show f32w n=single.nearest (decide (n<0)) n.natAbs 0 from rfl,h1,<-h2]
 refine⟨⟨_,_,hf,by omega⟩,?_⟩
 unfold val
 rw[hf]
 show sg (decide (n<0)) (n.natAbs*2 ^ 1074 / 2 ^ 1074)=n
 rw[Nat.mul_div_cancel _ (Nat.two_pow_pos _),sg_self]
theorem pE_0{c d:Fc}(h1:c.whole=true)(h2:d.whole=true)(h3:c.big=false)(h4:d.big=false):pE c d=0:=by
 unfold pE
 rw[h1,h2,h3,h4];rfl
theorem xe7{s:Bool}{k:Nat}(h:k<=2047):(Fc.num s (k*2 ^ 1074)).whole=true/\(Fc.num s (k*2 ^ 1074)).big=false:=by
 constructor
 .show(k*2 ^ 1074 % 2 ^ 1074 == 0)=true
  rw[Nat.mul_mod_left];rfl
 .show decide (2047*2 ^ 1074<k*2 ^ 1074)=false
  exact xmg (Nat.not_lt.mpr (xm3 _ h))
theorem pxErr_of{p:Px}(h1:RtP p.1)(h2:RtP p.2):xa6 p=0:=by
 obtain⟨s,k,e,hk⟩:=h1
 obtain⟨s',k',e',hk'⟩:=h2
 unfold xa6
 rw[e,e']
 exact pE_0 (xe7 hk).1 (xe7 hk').1 (xe7 hk).2 (xe7 hk').2
theorem chkS_of:∀(D:List Px) (k:Nat),RtD D->chkS k D=(0,0)
 |[],_,_=>rfl
 |p::r,k,h=>by
  unfold chkS
  rw[xlb (pxErr_of (h p (by simp)).1 (h p (by simp)).2)]
  exact chkS_of r (k+1) λq hq=>h q (by simp[hq])
theorem imE_of{L S:Int}{D:List Px}(h:RtI L S D):(imE L S D).2=0:=by
 have hz:szE L S D.length=0:=by
  unfold szE
  rw[h.l,h.s]
  simp[h.n]
 unfold imE
 rw[xlb hz,chkS_of D 0 h.d]
section
variable(L S:Int)(D:List Px)(k:Int)(f:Aff)
theorem xil(l:Nat):∀(n s q:Nat),q<n->(rowR L S D k f l s n)[q]?=some (pxR L S D k f l (s+q))
 |0,s,q,h=>by omega
 |n+1,s,q,h=>by
  rw[rowR_s]
  cases q with
  |zero=>rfl
  |succ q=>
   rw[xno,xil l n (s+1) q (by omega)]
   congr 2;omega
theorem xfu(rs:Nat):∀(n l p q:Nat),p<n->q<rs->(allR L S D k f rs l n)[p*rs+q]?=some (pxR L S D k f (l+p) q)
 |0,l,p,q,h,hq=>by omega
 |n+1,l,p,q,h,hq=>by
  rw[allR_s]
  cases p with
  |zero=>
   rw[xm4,xmi,xmy (by rw[xd0];exact hq),xil _ _ _ _ _ _ _ _ _ hq]
   congr 2;omega
  |succ p=>
   rw[xmz (by rw[xd0,xmb];omega),xd0,show(p+1)*rs+q-rs=p*rs+q by rw[xmb];omega,xfu rs n (l+1) p q (by omega) hq]
   congr 2;omega
end
def mvA(b0 b1:Int):Aff:=⟨1,b0,0,0,b1,0,0⟩
theorem shL_mv(b0 b1 x y:Int):shL (mvA b0 b1) x y=16*b0/\shS (mvA b0 b1) x y=16*b1:=by
 unfold shL shS tm mvA
 simp only[Int.zero_mul,Int.add_zero]
 constructor<;>omega
variable{a:AV}{D:List Px}{L S:Int}
theorem pxR_mv(hR:RtI L S D){k:Int}(hk:wi k 0 2=true)(b0 b1:Int)(l s:Nat):pxR L S D k (mvA b0 b1) l s=spx (atM L S D (l+b0) (s+b1)):=by
 unfold pxR
 rw[(shL_mv b0 b1 l s).1,(shL_mv b0 b1 l s).2,show(16:Int)*l+16*b0=16*(l+b0) by omega,show(16:Int)*s+16*b1=16*(s+b1) by omega,smp_whole hR hk]
theorem mv_in(b0 b1:Int)(h0:wi b0 (-70) 70=true)(h1:wi b1 (-70) 70=true):chkA (mvA b0 b1)=0:=by
 have:=wi_t h0
 have:=wi_t h1
 have e0:inT b0=true:=by unfold inT wi;simp;omega
 have e1:inT b1=true:=by unfold inT wi;simp;omega
 have e2:inT 0=true:=rfl
 have e3:wi 1 1 1000000000000=true:=rfl
 unfold chkA mvA
 simp[e0,e1,e2,e3]
theorem mv_RtI(hR:RtI L S D){k:Int}(hk:wi k 0 2=true)(b0 b1:Int){p q:Nat}(hp:L=p)(hq:S=q):RtI L S (allR L S D k (mvA b0 b1) q 0 p):=by
 refine⟨hR.l,hR.s,by rw[xe5,hp,hq];push_cast;rfl,?_⟩
 intro x hx
 unfold allR rowR at hx
 obtain⟨l,hl,hx⟩:=xmj.mp hx
 obtain⟨s,hs,rfl⟩:=xly.mp hx
 rw[pxR_mv hR hk]
 have hb:=xar hR (l+b0) (s+b1)
 exact⟨(xe6 hb.1).1,(xe6 hb.2).1⟩
theorem atM_spx{L S:Int}{D:List Px}{l s:Int}{p:Int×Int}(h1:wi l 0 (L-1)=true)(h2:wi s 0 (S-1)=true)(hg:D[(l*S+s).toNat]?=some (spx p))(hb:bd p.1 2047/\bd p.2 2047):atM L S D l s=p:=by
 unfold atM
 rw[h1,h2,xlt,hg]
 show(val (f32w p.1),val (f32w p.2))=p
 rw[(xe6 hb.1).2,(xe6 hb.2).2]
theorem atM_mv(hR:RtI L S D){k:Int}(hk:wi k 0 2=true)(b0 b1:Int){p q:Nat}(hp:L=p)(hq:S=q)(l s:Int):atM L S (allR L S D k (mvA b0 b1) q 0 p) l s=if(wi l 0 (L-1)&&wi s 0 (S-1))=true then atM L S D (l+b0) (s+b1)else(0,0):=by
 by_cases c:(wi l 0 (L-1)&&wi s 0 (S-1))=true
 .rw[xlb c]
  rw[xlf]at c
  have h1:=wi_t c.1
  have h2:=wi_t c.2
  have hg:=xfu L S D k (mvA b0 b1) q p 0 l.toNat s.toNat (by omega) (by omega)
  rw[xmi,pxR_mv hR hk,xo1 h1.1,xo1 h2.1]at hg
  refine atM_spx c.1 c.2 ?_ (xar hR _ _)
  have hm:0<=l*S:=xo5 h1.1 (by omega)
  have e:(l*S+s).toNat=l.toNat*q+s.toNat:=by
   have:l*S=((l.toNat*q:Nat):Int):=by rw[Int.natCast_mul,xo1 h1.1,hq]
   omega
  rw[e]
  exact hg
 .rw[xlc c]
  unfold atM
  rw[xlz.mpr c];rfl
theorem tR_ptr(id:Id)(v o:Nat):tR (.ptr id v o)=(some [id],some []):=rfl
theorem info_c64:∃i,Try.prog.info? x5=some i/\i.size=1:=by
 have h:(Try.prog.info? x5).map (λi=>i.size)=some 1:=by kernel_rfl
 obtain⟨i,h1,h2⟩:=xlg.mp h
 exact⟨i,h1,h2⟩
theorem px_drop:∀(Z:List Px) (i:Nat),(Z.flatMap pxE).drop i=(Z.drop i).flatMap pxE
 |[],i=>by simp
 |p::Z,0=>rfl
 |p::Z,i+1=>by
  show((pxE p++Z.flatMap pxE).drop (i+1))=_
  exact px_drop Z i
theorem slice_px{x:AV}{Z:List Px}(hx:Sl pxE x Z){i:Nat}{p:Px}(hp:Z[i]?=some p):∃x',Sl pxE x' [p]/\xbt Try.prog x9 x (some (I i)) (some (I (i+1)))=some x':=by
 obtain⟨hi,hp⟩:=xlv.mp hp
 rcases hx with ⟨rfl,rfl⟩|⟨fl,rfl⟩
 .simp at hi
 .obtain⟨w,e1,e2⟩:=info_c64
  have hs:xbt Try.prog x9 (.slit (Z.flatMap pxE) Z.length fl) (some (I i)) (some (I (i+1)))=some (.slit (((Z.flatMap pxE).drop ((i:Int).toNat*w.size)).take (((i:Int)+1-i).toNat*w.size)) (((i:Int)+1-i).toNat) (fl&&decide ((i:Int)+1=Z.length))):=by
   simp only[xbt,x87,x9b,e1,asI,Option.getD_some]
   rw[xlb ⟨by omega,by omega,by omega,by rw[e2,Nat.mul_one,xaq (z:=1) pxL];omega⟩]
  refine⟨_,?_,hs⟩
  rw[e2,Nat.mul_one,Nat.mul_one,px_drop,Int.toNat_natCast,x93 hi,hp,show((i:Int)+1-i).toNat=1 by omega]
  exact Or.inr ⟨_,rfl⟩
variable{a b z:AV}{D Z:List Px}{L S:Int}
def mvM(L S:Int)(D:List Px)(b0 b1 l s:Int):Int×Int:=bif wi (l-b0) 0 (L-1)&&wi (s-b1) 0 (S-1)then atM L S D l s else(0,0)
theorem B3_mv{x y:Int}(hz:Sl pxE z Z)(l s:Nat){M:Mem}(hn:M.next=1)(g12:M.get (0,79,12)=some (.row [I L,I S,z] 0 false))(g7:M.get (0,7,7)=some (.row [I L,I S,b] 0 false)){q:Nat}(hq:S=q)(hl:l<=64)(hs:s<=64)(hq64:q<=64)(hx:bd x 2047)(hy:bd y 2047)(hp:Z[l*q+s]?=some (spx (x,y)))(rec0:x8r)(rec1:xai)(fc:Nat) :
 x1k (x80 30) [] 0 rec0 rec1 (.ptr (0,1,4) 0 0) (.ptr (0,7,7) 0 0) (.ptr (0,79,12) 0 0) (I l) (I s) (I x) (I y) M fc
  = x2b (x80 30) [] 0 rec0 rec1 (.ptr (0,1,4) 0 0) (.ptr (0,7,7) 0 0) (.ptr (0,79,12) 0 0) (I l) (I s) M (fc+22):=by
 obtain⟨x',hx',es⟩:=slice_px hz hp
 have hlq:l*q<=64*64:=xo7 hl hq64
 have e1:(l:Int)*S=(l:Int)*q:=by rw[hq]
 have e2:(l:Int)*q+s=((l*q+s:Nat):Int):=by rw[Int.natCast_add,Int.natCast_mul]
 have e3:0<=(l:Int)*q/\(l:Int)*q<=4096:=by
  have:=Int.natCast_mul l q
  omega
 have sm:=λm=>w_Same (d:=28) hx' (pxS1 (f32w x) (f32w y)) (by simp) m
 have hS:=λm=>w_Sample 29 hx hy m
 have hb:decide ([spx (x,y)]=[(f32w x,f32w y)])=true:=xlu rfl
 unfold x1k
 simp(disch:=omega) [g12,g7,hn,e1,x8h]
 rw[e2,es]
 have htz:tR z=(some [],some []):=by rcases hz with ⟨rfl,_⟩|⟨fl,rfl⟩<;>rfl
 have hb':decide (spx (x,y)=(f32w x,f32w y))=true:=xlu rfl
 simp[hS,mkl,sm,hb',cAp,htz,tR_ptr,mkM,x8t,disj,clean,show Nat.blt 0 1=true from rfl]
section
variable(hb:Sl pxE b D)(hR:RtI L S D)(hz:Sl pxE z Z){b0 b1:Int}(h0:wi b0 (-70) 70=true)(h1:wi b1 (-70) 70=true){M:Mem}(hn:M.next=1)(g4:M.get (0,1,4)=some (.row [I b0,I b1] 0 false))(g12:M.get (0,79,12)=some (.row [I L,I S,z] 0 false))(g7:M.get (0,7,7)=some (.row [I L,I S,b] 0 false)){p q:Nat}(hp:L=p)(hq:S=q)(hZ:∀l s:Nat,l<p->s<q->Z[l*q+s]?=some (spx (mvM L S D b0 b1 l s)))
include hb hR hz h0 h1 hn g4 g12 g7 hp hq hZ
theorem l_mv1(rec0:x8r)(l:Nat)(hl:l<p):∀(n s j fc:Nat),s+n=q->n<j ->
 ∃fc',xq (x80 30) [] 0 rec0 j (.ptr (0,1,4) 0 0) (.ptr (0,7,7) 0 0) (.ptr (0,79,12) 0 0) (I l) (I s) M fc
  = x1y (x80 30) [] 0 rec0 (.ptr (0,1,4) 0 0) (.ptr (0,7,7) 0 0) (.ptr (0,79,12) 0 0) (I l) M fc':=by
 have hL:=wi_t hR.l
 have hS:=wi_t hR.s
 have k0:=wi_t h0
 have k1:=wi_t h1
 intro n
 induction n with
 |zero=>
  intro s j fc hn hj
  obtain⟨j,rfl⟩:∃i,j=i+1:=⟨j-1,by omega⟩
  have hk0:¬((s:Int)<S):=by omega
  refine⟨fc+4,?_⟩
  simp only[xq]
  unfold x2c
  simp[hk0,g7]
 |succ n ih=>
  intro s j fc hsn hj
  obtain⟨j,rfl⟩:∃i,j=i+1:=⟨j-1,by omega⟩
  have hk0:(s:Int)<S:=by omega
  have hz1:=hZ l s hl (by omega)
  have ra:=λm=>w_rAt 27 hb hR l s m
  have hat:=xar hR l s
  have q00:bd (0:Int) 2047:=by unfold bd;omega
  unfold mvM at hz1
  have go:∀(x y:Int) (fc1:Nat),bd x 2047->bd y 2047->Z[l*q+s]?=some (spx (x,y))->∃fc',x1k (x80 30) [] 0 rec0 (xq (x80 30) [] 0 rec0 j) (.ptr (0,1,4) 0 0) (.ptr (0,7,7) 0 0) (.ptr (0,79,12) 0 0) (I l) (I s) (I x) (I y) M fc1=x1y (x80 30) [] 0 rec0 (.ptr (0,1,4) 0 0) (.ptr (0,7,7) 0 0) (.ptr (0,79,12) 0 0) (I l) M fc':=by
   intro x y fc1 hx hy hpx
   obtain⟨fc',e⟩:=ih (s+1) j (fc1+22+3) (by omega) (by omega)
   refine⟨fc',?_⟩
   rw[B3_mv hz l s hn g12 g7 hq (by omega) (by omega) (by omega) hx hy hpx,<-e]
   unfold x2b
   simp(disch:=omega) [x8h]
  simp only[xq]
  unfold x2c x4w x4v
  cases c1:wi ((l:Int)-b0) 0 (L-1)
  .rw[c1]at hz1
   simp(disch:=omega) [hk0,g7,g4,sIxA,asI,x8h,x9k,c1]
   exact go _ _ _ q00 q00 hz1
  cases c2:wi ((s:Int)-b1) 0 (S-1)
  .rw[c1,c2]at hz1
   simp(disch:=omega) [hk0,g7,g4,sIxA,asI,x8h,x9k,c1,c2]
   exact go _ _ _ q00 q00 hz1
  .rw[c1,c2]at hz1
   simp(disch:=omega) [hk0,g7,g4,sIxA,asI,x8h,x9k,c1,c2,ra]
   simp only[xnn,x8x]
   exact go _ _ _ hat.1 hat.2 hz1
theorem l_mv0:∀(n l j fc:Nat),l+n=p->n<j ->
 xr (x80 30) [] 0 j (.ptr (0,1,4) 0 0) (.ptr (0,7,7) 0 0) (.ptr (0,79,12) 0 0) (I l) M fc=some (B true,M):=by
 have hL:=wi_t hR.l
 have hS:=wi_t hR.s
 intro n
 induction n with
 |zero=>
  intro l j fc hn hj
  obtain⟨j,rfl⟩:∃i,j=i+1:=⟨j-1,by omega⟩
  have hk0:¬((l:Int)<L):=by omega
  simp only[xr]
  unfold x2d x4u
  simp[hk0,g7]
 |succ n ih=>
  intro l j fc hln hj
  obtain⟨j,rfl⟩:∃i,j=i+1:=⟨j-1,by omega⟩
  have hk0:(l:Int)<L:=by omega
  obtain⟨fc',e⟩:=l_mv1 hb hR hz h0 h1 hn g4 g12 g7 hp hq hZ (xr (x80 30) [] 0 j) l (by omega) q 0 NN (fc+4+1) (by omega) (by rw[x9t];omega)
  simp only[xr]
  unfold x2d x4x
  simp[hk0,g7]
  rw[show(I 0:AV)=I ((0:Nat):Int)from rfl,e]
  unfold x1y
  simp(disch:=omega) [x8h]
  exact ih (l+1) j _ (by omega) (by omega)
end
theorem z_3m:x1l=[I 0,I 0,I 0]:=by kernel_rfl
theorem z_maff:x2f=[I 0,I 0,I 0,I 0,I 0,I 0,I 0]:=by kernel_rfl
theorem z_mres:x2g=[I 0,I 0,I 0,I 0,I 0,I 0,I 0,I 0,I 0,I 0]:=by kernel_rfl
theorem build_3m(x:Int):x8k x1l [(0,1,I x)]=some (.agg [I x,I 0,I 0]):=by rw[z_3m];rfl
theorem xk8(x y:Int):x8k x2f [(0,1,I 1),(1,3,.agg [I x,I 0,I 0]),(4,3,.agg [I y,I 0,I 0])]=some (.agg [I 1,I x,I 0,I 0,I y,I 0,I 0]):=by rw[z_maff];rfl
theorem xk9(k L S x y:Int):x8k [I 0,I 0,I 0,I 0,I 0,I 0,I 0,I 0,I 0,I 0] [(0,1,I k),(1,1,I L),(2,1,I S),(3,7,.agg [I 1,I x,I 0,I 0,I y,I 0,I 0])]=some (.agg [I k,I L,I S,I 1,I x,I 0,I 0,I y,I 0,I 0]):=rfl
theorem law_MatchMoves(L S:Int){l:List Nat}(hl:Sl f32E a l)(b0 b1 k:Int)(cl2:l.length<=1048576):∃m',x80 31 [] x1w [.agg [I L,I S,a],.agg [I b0,I b1],I k] mem0=some (B true,m'):=by
 rw[x5r]
 unfold x3t x2e
 have hsm:=λm=>w_small3 29 L S hl m
 obtain⟨b,hb,eb⟩:=w_LImage 28 L S hl cl2
 by_cases cl:l.length<=200
 rotate_left
 .simp[mem0,hl.one,xc1,hsm,cl,eb,xa5,hb.one]
 have hD:=prs_len l
 have ei:=λm=>xk4 (L:=L) (S:=S) 25 hb (by omega) m
 by_cases c0:(imE L S (prsM l)).2=0
 rotate_left
 .simp[mem0,hl.one,xc1,hsm,cl,eb,xa5,hb.one,ei,c0]
 cases ck:wi k 0 2
 .simp[mem0,hl.one,xc1,hsm,cl,eb,xa5,hb.one,ei,c0,xe3,ck]
 cases h0:wi b0 (-70) 70
 .simp[mem0,hl.one,xc1,hsm,cl,eb,xa5,hb.one,ei,c0,xe3,ck,sIxA,asI,x9k,h0]
 cases h1:wi b1 (-70) 70
 .simp[mem0,hl.one,xc1,hsm,cl,eb,xa5,hb.one,ei,c0,xe3,ck,sIxA,asI,x9k,h0,h1]
 have hR:=imE_0 c0
 have k0:=wi_t h0
 have k1:=wi_t h1
 have hL:=wi_t hR.l
 have hS:=wi_t hR.s
 have h0':wi (-b0) (-70) 70=true:=by unfold wi;simp;omega
 have h1':wi (-b1) (-70) 70=true:=by unfold wi;simp;omega
 obtain⟨p,hp⟩:∃p:Nat,L=p:=⟨L.toNat,by omega⟩
 obtain⟨q,hq⟩:∃q:Nat,S=q:=⟨S.toNat,by omega⟩
 have hrs:∀x y:Int,wi x (-70) 70=true->wi y (-70) 70=true->rsE k p q (mvA x y)=0:=λx y hx hy=>by
  unfold rsE
  rw[ck,<-hp,<-hq,hR.l,hR.s,mv_in x y hx hy];rfl
 have e1:reE L S (prsM l) k p q (mvA b0 b1)=0:=by unfold reE;rw[xlb c0];exact hrs _ _ h0 h1
 obtain⟨x,hx,ex⟩:=xik (L:=L) (S:=S) 22 hb (by omega) (k:=k) (rl:=p) (rs:=q) (f:=mvA b0 b1) (by omega) (by omega) e1
 have hRY:=mv_RtI hR ck b0 b1 hp hq
 have hYl:(allR L S (prsM l) k (mvA b0 b1) q 0 p).length<=5000:=by
  rw[xe5]
  have:=xo7 (show p<=64 by omega) (show q<=64 by omega)
  omega
 have e2:reE L S (allR L S (prsM l) k (mvA b0 b1) q 0 p) k p q (mvA (-b0) (-b1))=0:=by unfold reE;rw[xlb (imE_of hRY)];exact hrs _ _ h0' h1'
 obtain⟨z,hz,ez⟩:=xik (L:=L) (S:=S) 22 hx hYl (k:=k) (rl:=p) (rs:=q) (f:=mvA (-b0) (-b1)) (by omega) (by omega) e2
 have hZ:∀l' s:Nat,l'<p->s<q->(allR L S (allR L S (prsM l) k (mvA b0 b1) q 0 p) k (mvA (-b0) (-b1)) q 0 p)[l'*q+s]?=some (spx (mvM L S (prsM l) b0 b1 l' s)):=λl' s hl' hs'=>by
  have hg:=xfu L S (allR L S (prsM l) k (mvA b0 b1) q 0 p) k (mvA (-b0) (-b1)) q p 0 l' s hl' hs'
  rw[hg,xmi,pxR_mv hRY ck,atM_mv hR ck b0 b1 hp hq]
  unfold mvM
  rw[<-xo6,<-xo6,Int.sub_add_cancel,Int.sub_add_cancel]
  cases(wi ((l':Int)-b0) 0 (L-1)&&wi ((s:Int)-b1) 0 (S-1))<;>rfl
 have hlen:(allR L S (allR L S (prsM l) k (mvA b0 b1) q 0 p) k (mvA (-b0) (-b1)) q 0 p).length=(prsM l).length:=by
  rw[xe5]
  have:=hR.n
  rw[hp,hq]at this
  have h2:=Int.natCast_mul p q
  omega
 rw[<-hp,<-hq]at ex ez
 simp only[mvA,Aff.c,xn0,xn8]at ex ez
 have n0:w64 (-b0)=-b0:=x8h (by omega) (by omega)
 have n1:w64 (-b1)=-b1:=x8h (by omega) (by omega)
 simp[mem0,hl.one,xc1,hsm,cl,eb,xa5,hb.one,ei,c0,xe3,ck,sIxA,asI,x9k,h0,h1,build_3m,xk8,xk9,z_mres,n0,n1,ex,hx.one,ez,hz.one,hx.clean1,hl.clean1,hb.clean1,clean,cAp,tR,x8t,disj,show Nat.blt 0 1=true from rfl,hz.len x9b,hb.len x9b,hlen]
 generalize hM:Mem.set _ _ _=M
 have hn:M.next=1:=by rw[<-hM];rfl
 have g4:M.get (0,1,4)=some (.row [I b0,I b1] 0 false):=by rw[<-hM];simp
 have g7:M.get (0,7,7)=some (.row [I L,I S,b] 0 false):=by rw[<-hM];simp
 have g12:M.get (0,79,12)=some (.row [I L,I S,z] 0 false):=by rw[<-hM];simp
 unfold x4y
 rw[show(I 0:AV)=I ((0:Nat):Int)from rfl,l_mv0 hb hR hz h0 h1 hn g4 g12 g7 hp hq hZ p 0 NN _ (by omega) (by rw[x9t];omega)]
 exact⟨_,rfl⟩
end Go.Ix
