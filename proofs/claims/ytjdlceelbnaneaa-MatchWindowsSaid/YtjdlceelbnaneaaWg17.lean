import Derived.Test.YtjdlceelbnaneaaWg16
import Derived.Test.YtjdlceelbnaneaaWg1
import Derived.Test.YtjdlceelbnaneaaWg7
set_option linter.unusedSimpArgs false
set_option linter.unusedVariables false
set_option exponentiation.threshold 3000
namespace Go.Ix
open Go.Proofs Ieee
theorem w_Sample(d:Nat){x y:Int}(hx:bd x 2047)(hy:bd y 2047)(m:Mem):x70 (x6z (d+1)) xj [I x,I y] m=some (sPX (x,y),m):=by
 unfold bd at hx hy
 refine x7e rfl ?_ m
 rw[x54]
 unfold x3k x2b
 have h1:¬(10000:Int)<x:=by omega
 have h2:¬(10000:Int)<y:=by omega
 have e1:(if x<10000 then x else 10000)=x:=xjr (by omega)
 have e2:(if y<10000 then y else 10000)=y:=xjr (by omega)
 have e3:(if x > -10000 then x else -10000)=x:=xjr (by omega)
 have e4:(if y > -10000 then y else -10000)=y:=xjr (by omega)
 simp only[mem0,sMin_I,sMax_I,x7v,e1,e2,e3,e4,s_if32,cplx32]
 exact RetF.st rfl rfl
theorem xec(d:Nat)(x:Nat)(m:Mem):x70 (x6z (d+1)) x1f [.sc (.float .f32 x)] m=some (.sc (.int .u32 x),m):=by
 have h:((x6z (d+1) [] x1f [.sc (.float .f32 x)] mem0).bind λq=>Go.Ix.frz q.2.get deep q.1)=some (.sc (.int .u32 x)):=by kernel_rfl
 exact x7e rfl (retF_e h) m
theorem xed(X Y:Operand)(x y:Nat):sBin Try.prog .neq xb X Y (.sc (.int .u32 x)) (.sc (.int .u32 y))=some (B (!decide (x=y))):=by
 have h:x74 Try.prog (do eqGuard .neq xb X Y (.int .u32 x) (.int .u32 y);binOp .neq xb (.int .u32 x) (.int .u32 y))=some (.bool (!decide ((x:Int)=y))):=by
  rw[pr_bind]
  have hg:x74 Try.prog (eqGuard .neq xb X Y (.int .u32 x) (.int .u32 y))=some ():=rfl
  rw[hg]
  have h2:binOp .neq xb (.int .u32 x) (.int .u32 y)=.pure (.bool ((x:Int) != y)):=rfl
  show x74 Try.prog (binOp .neq xb (.int .u32 x) (.int .u32 y))=_
  rw[h2]
  show some (Value.bool ((x:Int) != y))=_
  congr 2
 refine sBin_0 ?_
 show(x74 Try.prog (do eqGuard .neq xb X Y (.int .u32 x) (.int .u32 y);binOp .neq xb (.int .u32 x) (.int .u32 y))).map x7h=_
 rw[h]
 show some (B (!decide ((x:Int)=y)))=_
 by_cases c:x=y
 .subst c;simp
 .have:¬(x:Int)=y:=by omega
  simp[c,this]
variable{a b:AV}{A B':List Px}
theorem l_Same(d:Nat)(hs:FHs)(u:Nat)(ha:Sl pxE a A)(hb:Sl pxE b B')(hl:A.length=B'.length)(hl2:A.length<=100000):∀(suf suf2:List Px) (k j:Nat) (m:Mem) (fc:Nat),A.drop k=suf->B'.drop k=suf2->suf.length<j ->
 x1g (x6z (d+1)) hs u j a b (I k) m fc=some (B (decide (suf=suf2)),m):=by
 intro suf
 induction suf with
 |nil=>
  intro suf2 k j m fc hd hd2 hj
  obtain⟨j,rfl⟩:∃i,j=i+1:=⟨j-1,by simp at hj;omega⟩
  have hk0:=xmq.mp hd
  have hk:¬((k:Int)<(A.length:Int)):=by omega
  have:suf2=[]:=by rw[<-hd2];exact xmq.mpr (by omega)
  subst this
  simp only[x1g]
  unfold x29
  simp[ha.len x8p,hk,x4e]
 |cons p suf ih=>
  intro suf2 k j m fc hd hd2 hj
  obtain⟨j,rfl⟩:∃i,j=i+1:=⟨j-1,by simp at hj;omega⟩
  obtain⟨hk,he,hd⟩:=xdv hd
  have hk':(k:Int)<(A.length:Int):=by omega
  have hkB:k<B'.length:=by omega
  rw[x8b hkB]at hd2
  subst hd2
  generalize hq:B'[k]=q
  have ix:=ha.ix pxL hk
  rw[x8b hk,xkp,he]at ix
  have ix2:=hb.ix pxL hkB
  rw[x8b hkB,xkp,hq]at ix2
  have h':=ih (B'.drop (k+1)) (k+1) j m (fc+35) hd rfl (by simp at hj;omega)
  have hcons:decide (p::suf=q::B'.drop (k+1))=(decide (p.1=q.1)&&(decide (p.2=q.2)&&decide (suf=B'.drop (k+1)))):=by
   rw[<-Bool.decide_and,<-Bool.decide_and]
   congr 1
   rw[xmf,Prod.ext_iff,and_assoc]
  rw[hcons]
  simp only[x1g]
  unfold x29
  simp only[ha.len x8p,x9h,hk',decide_true,x7v,xae,ix,ix2,pxE]
  by_cases c1:p.1=q.1
  rotate_left
  .simp(disch:=omega) [xbo,xec,xed,c1,cAp,tR,mkM,show Nat.blt 0 1=true from rfl]
  by_cases c2:p.2=q.2
  rotate_left
  .simp(disch:=omega) [xbo,xco,xec,xed,c1,c2,cAp,tR,mkM,show Nat.blt 0 1=true from rfl,ix,ix2,pxE]
  .simp(disch:=omega) [xbo,xco,xec,xed,c1,c2,cAp,tR,mkM,show Nat.blt 0 1=true from rfl,ix,ix2,pxE,x7n]
   exact h'
theorem w_Same(d:Nat)(ha:Sl pxE a A)(hb:Sl pxE b B')(hl2:A.length<=100000)(m:Mem):x70 (x6z (d+2)) xw [a,b] m=some (B (decide (A=B')),m):=by
 refine x7e (by simp[ha.still,hb.still]) ?_ m
 rw[x53]
 unfold x3j x2a
 by_cases c:A.length=B'.length
 .have h':=l_Same d [] 0 ha hb c hl2 A B' 0 NN ⟨[],1⟩ 7 rfl rfl (by rw[x9y];omega)
  have c':(A.length:Int)=B'.length:=by omega
  simp[mem0,ha.len x8p,hb.len x8p,c',x4f]
  rw[show(0:Int)=((0:Nat):Int)from rfl,h']
  exact RetF.st rfl rfl
 .have c':¬(A.length:Int)=B'.length:=by omega
  have hne:¬A=B':=λe=>c (by rw[e])
  simp[mem0,ha.len x8p,hb.len x8p,c',hne]
  exact RetF.st rfl rfl
theorem xh2(d:Nat){L S L' S':Int}(ha:Sl pxE a A)(hb:Sl pxE b B')(hl2:A.length<=100000)(m:Mem):x70 (x6z (d+3)) xm [.agg [I L,I S,a],.agg [I L',I S',b]] m=some (B (decide (L=L')&&(decide (S=S')&&decide (A=B'))),m):=by
 refine x7e (by simp[ha.still1,hb.still1]) ?_ m
 rw[x58]
 unfold x3o x2i
 have h:=λm=>w_Same d ha hb hl2 m
 by_cases c1:L=L'
 .by_cases c2:S=S'
  .simp[mem0,ha.one,hb.one,c1,c2,h];exact RetF.st rfl rfl
  .simp[mem0,ha.one,hb.one,c1,c2,h];exact RetF.st rfl rfl
 .simp[mem0,ha.one,hb.one,c1,h];exact RetF.st rfl rfl
theorem xh3{objs:Id->Option Ob}{id:Id}{cs:List AV}{v off k:Nat}{f:Bool}(h:objs id=some (.row cs v f)):Go.Ix.frz objs (k+1) (.ptr id v off)=((cs.drop off).mapM (Go.Ix.frz objs k)).map AV.plit:=by
 simp only[Go.Ix.frz,h,xkk]
def fitB(L S x y z w:Int):Bool:=wi x 0 (L-z)&&wi y 0 (S-w)
def winE(L S x y z w:Int):Int:=bif wi z 1 8&&wi w 1 8 then(bif fitB L S x y z w then 0 else 26)else 2
variable{a:AV}{D:List Px}{L S:Int}
theorem w_fits(d:Nat)(h1:still1 a=true)(h2:a.one=true)(L S x y z w:Int)(hz:bd (L-z) 1000000000000000)(hw:bd (S-w) 1000000000000000)(m:Mem):x70 (x6z (d+2)) x16 [.agg [I L,I S,a],.agg [I x,I y,I z,I w]] m=some (B (fitB L S x y z w),m):=by
 unfold bd at hz hw
 refine x7e (by simp[h1]) ?_ m
 rw[x5i]
 unfold x3y x2x fitB
 cases c1:wi x 0 (L-z)
 .simp(disch:=omega) [mem0,h2,x9i,c1,x7n];exact RetF.st rfl rfl
 .simp(disch:=omega) [mem0,h2,x9i,c1,x7n];exact RetF.st rfl rfl
theorem xip(d:Nat)(ha:Sl pxE a D)(hR:RtI L S D)(x y z w:Int)(m:Mem):x70 (x6z (d+3)) x11 [.agg [I L,I S,a],.agg [I x,I y,I z,I w]] m=some (I (winE L S x y z w),m):=by
 have hl:=wi_t hR.l
 have hs:=wi_t hR.s
 refine x7e (by simp[ha.still1]) ?_ m
 rw[x5b]
 unfold x3r x2p winE
 cases c1:wi z 1 8
 .simp[mem0,ha.one,x9i,c1];exact RetF.st rfl rfl
 cases c2:wi w 1 8
 .simp[mem0,ha.one,x9i,c1,c2];exact RetF.st rfl rfl
 have hz:=wi_t c1
 have hw:=wi_t c2
 have hf:=λm=>w_fits d ha.still1 ha.one L S x y z w (by unfold bd;omega) (by unfold bd;omega) m
 cases c3:fitB L S x y z w
 .simp[mem0,ha.one,x9i,c1,c2,hf,c3];exact RetF.st rfl rfl
 .simp[mem0,ha.one,x9i,c1,c2,hf,c3];exact RetF.st rfl rfl
theorem xh4(d:Nat)(ha:Sl pxE a D)(hR:RtI L S D)(x y z w:Int)(m:Mem):x70 (x6z (d+3)) xy [.agg [I L,I S,a],.agg [I x,I y,I z,I w]] m=some (I (winE L S x y z w),m):=by
 have hl:=wi_t hR.l
 have hs:=wi_t hR.s
 refine x7e (by simp[ha.still1]) ?_ m
 rw[x56]
 unfold x3m x2g winE
 cases c1:wi z 1 8
 .simp[mem0,ha.one,x9a,c1];exact RetF.st rfl rfl
 cases c2:wi w 1 8
 .simp[mem0,ha.one,x9a,c1,c2];exact RetF.st rfl rfl
 have hz:=wi_t c1
 have hw:=wi_t c2
 have hf:=λm=>w_lies d ha.still1 ha.one L S x y z w (x7n (by omega) (by omega)) (x7n (by omega) (by omega)) m
 unfold fitB
 cases c3:(wi x 0 (L-z)&&wi y 0 (S-w))
 .simp[mem0,ha.one,x9a,c1,c2,hf,c3];exact RetF.st rfl rfl
 .simp[mem0,ha.one,x9a,c1,c2,hf,c3];exact RetF.st rfl rfl
def cwE(L S:Int)(D:List Px)(x y z w:Int):Int:=if(imE L S D).2=0 then winE L S x y z w else(imE L S D).2
theorem z_scene3:x2f=[I 0,I 0,nilS]:=by kernel_rfl
theorem xh5(L S:Int)(a:AV):x7y x2f [(0,3,.agg [I L,I S,a])]=some (.agg [I L,I S,a]):=by
 rw[z_scene3];rfl
theorem xee(d:Nat)(ha:Sl pxE a D)(hl:D.length<=5000)(x y z w:Int)(m:Mem):x70 (x6z (d+8)) xl [.agg [I L,I S,a],.agg [I x,I y,I z,I w]] m=some (I (cwE L S D x y z w),m):=by
 refine x7e (by simp[ha.still1]) ?_ m
 rw[x57]
 unfold x3n x2h cwE
 have ie:=λm=>xin (L:=L) (S:=S) d ha hl m
 by_cases c:(imE L S D).2=0
 .have hR:=imE_0 c
  have we:=λm=>xip (d+4) ha hR x y z w m
  simp[mem0,ha.one,ie,c,xh5,we]
  exact RetF.st rfl rfl
 .simp[mem0,ha.one,ie,c]
  exact RetF.st rfl rfl
theorem w_values(d:Nat)(h1:still1 a=true)(h2:a.one=true)(x y z w:Int)(m:Mem):x70 (x6z (d+1)) x15 [.agg [I L,I S,a],.agg [I x,I y,I z,I w]] m=some (.clo xe [.plit [I x,I y,I z,I w],.plit [I L,I S,a]],m):=by
 refine x7e (by simp[h1]) ?_ m
 rw[x5h]
 unfold x3x x2w
 simp[mem0,h2]
 generalize hm:Mem.new _ _ _=m1
 have g2:m1.get (0,0,2)=some (.row [I L,I S,a] 0 false):=by rw[<-hm];simp
 have g3:m1.get (0,1,3)=some (.row [I x,I y,I z,I w] 0 false):=by rw[<-hm];simp
 have e2:Go.Ix.frz m1.get 5 (.ptr (0,0,2) 0 0)=some (.plit [I L,I S,a]):=by
  rw[xh3 g2]
  simp only[xkw,xkt,xm2,xbh m1.get 3 h1]
  rfl
 have e3:Go.Ix.frz m1.get 5 (.ptr (0,1,3) 0 0)=some (.plit [I x,I y,I z,I w]):=by
  rw[xh3 g3]
  rfl
 refine RetF.mk (a':=.clo xe [.plit [I x,I y,I z,I w],.plit [I L,I S,a]]) ?_ rfl
 show(([AV.ptr (0,1,3) 0 0,.ptr (0,0,2) 0 0].mapM (Go.Ix.frz m1.get 5)).map λl=>AV.clo _ l)=_
 simp only[xkt,xm2,e2,e3]
 rfl
theorem c_values(d:Nat){hh:FHs}{id:Id}{h:List AV->Mem->Option Mem}(ha:Sl pxE a D)(hR:RtI L S D)(hl:x9u hh id=some h)(hid:id.2.2=0){x y z w:Int}(hz:1<=z/\z<=8)(hw:1<=w/\w<=8)(hx:bd x 100000)(hy:bd y 100000){m0:Mem}(Inv:Nat->Mem->Prop)(hst:∀i m m',Inv i m->m'.hp=m.hp->Inv i m')(hb:∀(i:Nat) (r:AV) m,(i:Int)<z*w->Is (Fzi (atM L S D (x+i / w) (y+i % w)).1 (atM L S D (x+i / w) (y+i % w)).2) r->Inv i m->∃m2,h [I i,r] m=some m2/\Inv (i+1) m2)(h0:Inv 0 m0) :
 ∃m',x6z (d+3) hh xe [.yld id,.plit [I x,I y,I z,I w],.plit [I L,I S,a]] m0=some (.tup [],m')/\Inv (z*w).toNat m':=by
 have hzw:1<=z*w/\z*w<=64:=by
  have q1:z*w<=8*8:=xlw (by omega) (by omega) (by omega) (by omega)
  have q2:1*1<=z*w:=xlw (by omega) (by omega) (by omega) (by omega)
  omega
 unfold bd at hx hy
 rw[x5m]
 unfold x42 x32
 generalize hu:m0.next=u
 have key:∀(n k j:Nat) (m:Mem) (fc:Nat),(k:Int)+n=z*w->n<j->Inv k m ->
  ∃m',x1k (x6z (d+2)) hh u j (.yld id) (.plit [I x,I y,I z,I w]) (.plit [I L,I S,a]) (I (z*w)) (I k) m fc=some (.tup [],m')/\Inv (z*w).toNat m':=by
  intro n
  induction n with
  |zero=>
   intro k j m fc hk hj hI
   obtain⟨j,rfl⟩:∃i,j=i+1:=⟨j-1,by omega⟩
   have hk0:¬((k:Int)<z*w):=by omega
   refine⟨m,?_,by rw[show(z*w).toNat=k by omega];exact hI⟩
   simp only[x1k]
   unfold x31
   rw[x9h,xkz hk0]
   rfl
  |succ n ih=>
   intro k j m fc hk hj hI
   obtain⟨j,rfl⟩:∃i,j=i+1:=⟨j-1,by omega⟩
   have hk0:(k:Int)<z*w:=by omega
   have hdv:(k:Int).tdiv w=(k:Int) / w:=Int.tdiv_eq_ediv_of_nonneg (by omega)
   have hmd:(k:Int).tmod w=(k:Int) % w:=Int.tmod_eq_emod_of_nonneg (by omega)
   have q1:0<=(k:Int) / w:=Int.ediv_nonneg (by omega) (by omega)
   have q2:(k:Int) / w<=k:=Int.ediv_le_self _ (by omega)
   have q3:=Int.emod_nonneg (k:Int) (show w≠0 by omega)
   have q4:=Int.emod_lt_of_pos (k:Int) (show 0<w by omega)
   obtain⟨r,er,hr⟩:=w_at d ha hR (x+(k:Int) / w) (y+(k:Int) % w) m
   obtain⟨m2,e2,hI2⟩:=hb k r m hk0 hr hI
   have hlv:live m2.get id=true:=by unfold live;rw[hid];rfl
   have hinv:xab (x6z (d+2)) hh 2 (.yld id) [I k,r] m=some (B true,m2):=by
    show(match x9u hh id with
     |some h=>(h [I k,r] m).map λ(m':Mem)=>(B (live m'.get id),m')
     |none=>none)=_
    rw[hl]
    simp only
    rw[e2]
    show some (B (live m2.get id),m2)=_
    rw[hlv]
   obtain⟨m',e,hI'⟩:=ih (k+1) j m2 (fc+25) (by omega) (by omega) hI2
   refine⟨m',?_,hI'⟩
   rw[<-e]
   simp only[x1k]
   conv=>lhs;unfold x31
   simp only[x9h,hk0,decide_true,x7v,xae]
   simp(disch:=omega) [sQuo_I (show w≠0 by omega),sRem_I (show w≠0 by omega),hdv,hmd,x7n,er,hinv,mkM,clean,ha.clean1]
 obtain⟨m',e,hI'⟩:=key (z*w).toNat 0 NN ⟨m0.hp,u+1⟩ 6 (by omega) (by rw[x9y];omega) (hst 0 m0 _ h0 rfl)
 refine⟨m',?_,hI'⟩
 rw[<-e]
 simp(disch:=omega) [x7n]
open Ieee
theorem xiq{x:Nat}{s:Bool}{m:Nat}{e:Int}(h:double.read x=.number s m e)(he:e≠-1074):2 ^ 52<=m:=by
 have e1:double.leastPlace=-1074:=rfl
 have e3:double.binade=2 ^ 52:=rfl
 have e4:double.infRung=2047*2 ^ 52:=rfl
 have e5:double.signWeight=2 ^ 63:=rfl
 unfold Format.read at h
 simp only[e1,e3,e4,e5]at h
 generalize x % 2 ^ 63=r at h
 split at h
 .cases h;exact absurd rfl he
 .split at h
  .cases h;omega
  .split at h<;>cases h
theorem norm_I{w:Nat}{s:Bool}{m:Nat}{e:Int}{N:Nat}(h:double.read w=.number s m e)(he:-1074<=e)(h0:0<N)(hN:N<2048)(hv:sv m e=N*2 ^ 1074):m=N <<< (52-N.log2)/\e=(N.log2:Int)-52:=by
 have hm:=(xav h).1
 obtain⟨b1,b2⟩:=e_bd hm he h0 (by omega) hv
 have hl:=xiq h (by omega)
 have k1:=Nat.log2_self_le (n:=N) (by omega)
 have k2:N<2 ^ (N.log2+1):=Nat.lt_log2_self
 have hneg:e<0:=by
  rcases Int.lt_or_le e 0 with g|g
  .exact g
  .exfalso
   unfold sv at hv
   have q1:2 ^ 52*2 ^ 1074<=m*2 ^ (e+1074).toNat:=xmp hl (Nat.pow_le_pow_right (by omega) (by omega))
   rw[hv]at q1
   have:=xne q1 (Nat.two_pow_pos _)
   omega
 have hmN:m=N*2 ^ (-e).toNat:=by
  unfold sv at hv
  have:(1074:Nat)=(-e).toNat+(e+1074).toNat:=by omega
  rw[this,Nat.pow_add,<-Nat.mul_assoc]at hv
  exact Nat.eq_of_mul_eq_mul_right (Nat.two_pow_pos _) hv
 have g1:N.log2+(-e).toNat<53:=by
  have q1:2 ^ N.log2*2 ^ (-e).toNat<=m:=by rw[hmN];exact xki _ k1
  rw[<-Nat.pow_add]at q1
  exact(Nat.pow_lt_pow_iff_right (by omega)).mp (Nat.lt_of_le_of_lt q1 hm)
 have g2:52<N.log2+1+(-e).toNat:=by
  have q1:m<2 ^ (N.log2+1)*2 ^ (-e).toNat:=by rw[hmN];exact Nat.mul_lt_mul_of_pos_right k2 (Nat.two_pow_pos _)
  rw[<-Nat.pow_add]at q1
  exact(Nat.pow_lt_pow_iff_right (by omega)).mp (Nat.lt_of_le_of_lt hl q1)
 refine⟨?_,by omega⟩
 rw[hmN,Nat.shiftLeft_eq]
 congr 2
 omega
theorem log2_shl{N k:Nat}(h:0<N):(N <<< k).log2=N.log2+k:=by
 have k1:=Nat.log2_self_le (n:=N) (by omega)
 have k2:N<2 ^ (N.log2+1):=Nat.lt_log2_self
 have hp:N <<< k≠0:=by
  rw[Nat.shiftLeft_eq]
  exact Nat.ne_of_gt (xku h (Nat.two_pow_pos _))
 rw[Nat.log2_eq_iff hp,Nat.shiftLeft_eq,Nat.pow_add,show N.log2+k+1=N.log2+1+k by omega,Nat.pow_add _ (N.log2+1)]
 exact⟨xki _ k1,Nat.mul_lt_mul_of_pos_right k2 (Nat.two_pow_pos _)⟩
theorem scale_s(s:Bool){N:Nat}(h:N<2048):single.nearest s (N <<< (52-N.log2)) ((N.log2:Int)-52)=single.nearest s N 0:=by
 by_cases h0:N=0
 .subst h0;rfl
 have k1:=Nat.log2_self_le (n:=N) (by omega)
 have hk:N.log2<=10:=by
  have:=(Nat.log2_lt (n:=N) (k:=11) (by omega)).mpr (by omega)
  omega
 have hl:=log2_shl (N:=N) (k:=52-N.log2) (by omega)
 have hp:0<N <<< (52-N.log2):=by rw[Nat.shiftLeft_eq];exact xku (by omega) (Nat.two_pow_pos _)
 have e1:single.leastPlace=-149:=rfl
 have e2:(single.fractionBits:Int)=23:=rfl
 unfold Format.nearest
 rw[xjs (by omega),xjs h0]
 simp only[e1,e2,hl]
 have q1:max ((N.log2:Int)-52+((N.log2+(52-N.log2):Nat):Int)-23) (-149)=(N.log2:Int)-23:=by omega
 have q2:max ((0:Int)+(N.log2:Int)-23) (-149)=(N.log2:Int)-23:=by omega
 rw[q1,q2]
 have r1:((N.log2:Int)-52-((N.log2:Int)-23)).toNat=0:=by omega
 have r2:((N.log2:Int)-23-((N.log2:Int)-52)).toNat=29:=by omega
 have r3:((0:Int)-((N.log2:Int)-23)).toNat=23-N.log2:=by omega
 have r4:((N.log2:Int)-23-0).toNat=0:=by omega
 rw[r1,r2,r3,r4,cut_0]
 have hd:N <<< (52-N.log2)=N <<< (23-N.log2)*2 ^ 29:=by
  rw[Nat.shiftLeft_eq,Nat.shiftLeft_eq,Nat.mul_assoc,<-Nat.pow_add]
  congr 2;omega
 rw[Nat.shiftLeft_zero,cut_dvd s hp ⟨N <<< (23-N.log2),by rw[hd,Nat.mul_comm]⟩,hd,Nat.mul_div_cancel _ (Nat.two_pow_pos _)]
def tabS(s:Bool)(N:Nat):Bool:=
 (!(single.read (single.nearest s N 0)).isInfinity&&(match single.add (single.nearest s N 0) 0 with
  |some r=>Nat.beq r (FloatKind.f32.nearest (sg s N))
  |none=>false))
theorem tab_ok:((List.range 2048).all λN=>tabS false N&&tabS true N)=true:=by kernel_rfl
theorem xef{s:Bool}{N:Nat}(h:N<2048):single.nearest s (N <<< (52-N.log2)) ((N.log2:Int)-52)=single.nearest s N 0/\(single.read (single.nearest s N 0)).isInfinity=false/\single.add (single.nearest s N 0) 0=some (FloatKind.f32.nearest (sg s N)):=by
 have h1:=xjx.mp tab_ok N (xk8.mpr h)
 rw[xjv]at h1
 have h2:tabS s N=true:=by
  cases s
  .exact h1.1
  .exact h1.2
 unfold tabS at h2
 rw[xjv]at h2
 obtain⟨b,c⟩:=h2
 refine⟨scale_s s h,by simpa using b,?_⟩
 split at c
 .rename_i r hr
  rw[hr,xk0 c]
 .cases c
def Js(n:Int)(x:Nat):Prop:=∃s,sg s n.natAbs=n/\x=single.nearest s n.natAbs 0
def Fzs(a b:Int)(v:Value):Prop:=∃x y,v=.complex .f32 x y/\Js a x/\Js b y
theorem single_0(s:Bool)(e:Int):single.nearest s 0 e=single.nearest s 0 0:=by
 unfold Format.nearest
 rw[xjr rfl,xjr rfl]
theorem f2s{w:Nat}{n:Int}(h:IsI w n)(hn:n.natAbs<2048){P:Program}:OkR P (Conv.floatToFloat .f64 w .f32) (λv=>∃x,v=.float .f32 x/\Js n x):=by
 obtain⟨s,m,e,h1,h2,h3,h4⟩:=h
 have hv:=I_abs h4
 have hs:sg s n.natAbs=n:=by
  rw[hv,xbl]at h4
  have hp:(0:Int)<2 ^ 1074:=Int.pow_pos (by decide)
  refine Int.eq_of_mul_eq_mul_right (Int.ne_of_gt hp) ?_
  rw[<-h4,Int.natCast_pow];rfl
 have hx:single.nearest s m e=single.nearest s n.natAbs 0:=by
  by_cases h0:n.natAbs=0
  .have:m=0:=by
    rw[h0,xkm]at hv
    unfold sv at hv
    rcases Nat.mul_eq_zero.mp hv with q|q
    .exact q
    .exact absurd q (Nat.ne_of_gt (Nat.two_pow_pos _))
   rw[this,h0,single_0]
  .obtain⟨g1,g2⟩:=norm_I h1 h2 (by omega) hn hv
   rw[g1,g2]
   exact(xef hn).1
 unfold Conv.floatToFloat
 rw[xjs (by decide)]
 simp only[show FloatKind.f64.decode w=double.read w from rfl,h1]
 have hi:(FloatKind.f32.decode (FloatKind.f32.encode (.number s m e))).isInfinity=false:=by
  show(single.read (single.nearest s m e)).isInfinity=false
  rw[hx]
  exact(xef hn).2.1
 simp only[hi]
 exact OkR.pure ⟨single.nearest s n.natAbs 0,by rw[<-hx];rfl,s,hs,rfl⟩
theorem c2s{x y:Nat}{a b:Int}(hx:IsI x a)(hy:IsI y b)(ha:a.natAbs<2048)(hb:b.natAbs<2048){P:Program}:OkR P (Conv.complexToComplex .f64 x y .f32) (Fzs a b):=by
 unfold Conv.complexToComplex
 refine OkR.bind (Q:=λv=>∃x,v=.float .f32 x/\Js a x) ?_ (f2s hx ha)
 rintro _ ⟨u,rfl,hu⟩
 refine OkR.bind (Q:=λv=>∃x,v=.float .f32 x/\Js b x) ?_ (f2s hy hb)
 rintro _ ⟨w,rfl,hw⟩
 exact OkR.pure ⟨u,w,rfl,hu,hw⟩
theorem add0_s{n:Int}{x:Nat}(h:Js n x)(hn:n.natAbs<2048):single.add x 0=some (FloatKind.f32.nearest n):=by
 obtain⟨s,h1,rfl⟩:=h
 rw[(xef hn).2.2,h1]
theorem one_Zs{a b:Int}{v:Value}(h:Fzs a b v):one1 v:=by
 obtain⟨x,y,rfl,-⟩:=h
 exact⟨rfl,rfl,λb hb=>by cases hb⟩
theorem ar_add0{n:Int}{x:Nat}(h:Js n x)(hn:n.natAbs<2048):Op.Complex.arith .add .f32 x 0=.pure (FloatKind.f32.nearest n):=by
 unfold Op.Complex.arith Op.floatArith
 show(Sem.bind (match single.add x 0 with
  |some r=>Pure.pure (Value.float .f32 r)
  |none=>_) _)=_
 rw[add0_s h hn];rfl
end Go.Ix
namespace Go.Ix
open Go.Proofs Ieee
variable{a:AV}{D:List Px}{L S:Int}
end Go.Ix
