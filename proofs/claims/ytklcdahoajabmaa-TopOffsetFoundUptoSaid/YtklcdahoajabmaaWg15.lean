import Derived.Test.YtklcdahoajabmaaWg14
import Derived.Test.YtklcdahoajabmaaWg7
import Derived.Test.YtklcdahoajabmaaWg6
set_option linter.unusedSimpArgs false
set_option linter.unusedVariables false
set_option exponentiation.threshold 3000
namespace Go.Ix
open Go.Proofs Ieee
def lowN(n e:Int):Int×Int:=(n.tdiv (Int.gcd n e:Int),e.tdiv (Int.gcd n e:Int))
variable{a b:AV}{D D2:List Px}{L S L2 S2:Int}
section
variable(d:Nat)(hs:FHs)(ha:Sl pxE a D)(hR:RtI L S D)(hb:Sl pxE b D2)(hR2:RtI L2 S2 D2){x y p q:Int}{z w:Nat}(hz:z<=8)(hw:w<=8)(hx:0<=x/\x<=64)(hy:0<=y/\y<=64)(hp:-64<=p/\p<=64)(hq:-64<=q/\q<=64){M:Mem}(g3:M.get (0,0,3)=some (.row [I L,I S,a,I L2,I S2,b] 0 false))(g4:M.get (0,1,4)=some (.row [I x,I y,I z,I w] 0 false))(g5:M.get (0,2,5)=some (.row [I p,I q] 0 false))
include ha hR hb hR2 hw hx hy hp hq g3 g4 g5
end
theorem low_ok{n e:Int}(h0:0<=n)(he:0<e)(hb:n<=9000000000000000000)(hb2:e<=9000000000000000000):(0:Int)<(Int.gcd n e:Int)/\w64 (n.tdiv (Int.gcd n e:Int))=(lowN n e).1/\w64 (e.tdiv (Int.gcd n e:Int))=(lowN n e).2/\0<=(lowN n e).1/\1<=(lowN n e).2/\(n<=e->(lowN n e).1<=(lowN n e).2):=by
 have hg:0<Int.gcd n e:=Int.gcd_pos_of_ne_zero_right n (by omega)
 have hg':(0:Int)<(Int.gcd n e:Int):=by omega
 have e1:n.tdiv (Int.gcd n e:Int)=n / (Int.gcd n e:Int):=Int.tdiv_eq_ediv_of_nonneg h0
 have e2:e.tdiv (Int.gcd n e:Int)=e / (Int.gcd n e:Int):=Int.tdiv_eq_ediv_of_nonneg (by omega)
 have d2:(Int.gcd n e:Int) ∣ e:=Int.gcd_dvd_right ..
 have p1:0<=n / (Int.gcd n e:Int):=Int.ediv_nonneg h0 (by omega)
 have p2:1<=e / (Int.gcd n e:Int):=by
  have:=Int.ediv_pos_of_pos_of_dvd he (by omega) d2
  omega
 have u1:n / (Int.gcd n e:Int)<=n:=Int.ediv_le_self _ h0
 have u2:e / (Int.gcd n e:Int)<=e:=Int.ediv_le_self _ (by omega)
 unfold lowN
 simp only
 rw[e1,e2]
 refine⟨hg',xd6 (by omega) (by omega),xd6 (by omega) (by omega),p1,p2,λh=>Int.ediv_le_ediv hg' h⟩
noncomputable def scM(L S:Int)(D:List Px)(L2 S2:Int)(D2:List Px)(x y:Int)(z w:Nat)(p q:Int):(Int×Int)×Int:=
 if xe8 L2 S2 x y z w p q=true then
  (if scE (wA L S D x y) w (z*w)=0\/scE (wA L2 S2 D2 (x+p) (y+q)) w (z*w)=0 then((0,0),11)
   else(lowN (scN (wA L S D x y) (wA L2 S2 D2 (x+p) (y+q)) w (z*w)) (scE (wA L S D x y) w (z*w)*scE (wA L2 S2 D2 (x+p) (y+q)) w (z*w)),0))
 else((0,0),26)
open Ieee
theorem xre{x:Nat}{s:Bool}{m:Nat}{e:Int}(h:double.read x=.number s m e)(he:e≠-1074):2 ^ 52<=m:=by
 have e1:double.leastPlace=-1074:=rfl
 have e3:double.binade=2 ^ 52:=rfl
 have e4:double.infRung=2047*2 ^ 52:=rfl
 have e5:double.signWeight=2 ^ 63:=rfl
 unfold Format.read at h
 simp only[e1,e3,e4,e5]at h
 generalize x % 2 ^ 63=r at h
 split at h
 .cases h;exact absurd rfl he
 .split at h
  .cases h;omega
  .split at h<;>cases h
theorem norm_I{w:Nat}{s:Bool}{m:Nat}{e:Int}{N:Nat}(h:double.read w=.number s m e)(he:-1074<=e)(h0:0<N)(hN:N<2048)(hv:sv m e=N*2 ^ 1074):m=N <<< (52-N.log2)/\e=(N.log2:Int)-52:=by
 have hm:=(xhf h).1
 obtain⟨b1,b2⟩:=e_bd hm he h0 (by omega) hv
 have hl:=xre h (by omega)
 have k1:=Nat.log2_self_le (n:=N) (by omega)
 have k2:N<2 ^ (N.log2+1):=Nat.lt_log2_self
 have hneg:e<0:=by
  rcases Int.lt_or_le e 0 with g|g
  .exact g
  .exfalso
   unfold sv at hv
   have q1:2 ^ 52*2 ^ 1074<=m*2 ^ (e+1074).toNat:=xuh hl (Nat.pow_le_pow_right (by omega) (by omega))
   rw[hv]at q1
   have:=xxa q1 (Nat.two_pow_pos _)
   omega
 have hmN:m=N*2 ^ (-e).toNat:=by
  unfold sv at hv
  have:(1074:Nat)=(-e).toNat+(e+1074).toNat:=by omega
  rw[this,Nat.pow_add,<-Nat.mul_assoc]at hv
  exact Nat.eq_of_mul_eq_mul_right (Nat.two_pow_pos _) hv
 have g1:N.log2+(-e).toNat<53:=by
  have q1:2 ^ N.log2*2 ^ (-e).toNat<=m:=by rw[hmN];exact xu4 _ k1
  rw[<-Nat.pow_add]at q1
  exact(Nat.pow_lt_pow_iff_right (by omega)).mp (Nat.lt_of_le_of_lt q1 hm)
 have g2:52<N.log2+1+(-e).toNat:=by
  have q1:m<2 ^ (N.log2+1)*2 ^ (-e).toNat:=by rw[hmN];exact Nat.mul_lt_mul_of_pos_right k2 (Nat.two_pow_pos _)
  rw[<-Nat.pow_add]at q1
  exact(Nat.pow_lt_pow_iff_right (by omega)).mp (Nat.lt_of_le_of_lt hl q1)
 refine⟨?_,by omega⟩
 rw[hmN,Nat.shiftLeft_eq]
 congr 2
 omega
theorem log2_shl{N k:Nat}(h:0<N):(N <<< k).log2=N.log2+k:=by
 have k1:=Nat.log2_self_le (n:=N) (by omega)
 have k2:N<2 ^ (N.log2+1):=Nat.lt_log2_self
 have hp:N <<< k≠0:=by
  rw[Nat.shiftLeft_eq]
  exact Nat.ne_of_gt (xuk h (Nat.two_pow_pos _))
 rw[Nat.log2_eq_iff hp,Nat.shiftLeft_eq,Nat.pow_add,show N.log2+k+1=N.log2+1+k by omega,Nat.pow_add _ (N.log2+1)]
 exact⟨xu4 _ k1,Nat.mul_lt_mul_of_pos_right k2 (Nat.two_pow_pos _)⟩
theorem scale_s(s:Bool){N:Nat}(h:N<2048):single.nearest s (N <<< (52-N.log2)) ((N.log2:Int)-52)=single.nearest s N 0:=by
 by_cases h0:N=0
 .subst h0;rfl
 have k1:=Nat.log2_self_le (n:=N) (by omega)
 have hk:N.log2<=10:=by
  have:=(Nat.log2_lt (n:=N) (k:=11) (by omega)).mpr (by omega)
  omega
 have hl:=log2_shl (N:=N) (k:=52-N.log2) (by omega)
 have hp:0<N <<< (52-N.log2):=by rw[Nat.shiftLeft_eq];exact xuk (by omega) (Nat.two_pow_pos _)
 have e1:single.leastPlace=-149:=rfl
 have e2:(single.fractionBits:Int)=23:=rfl
 unfold Format.nearest
 rw[xtb (by omega),xtb h0]
 simp only[e1,e2,hl]
 have q1:max ((N.log2:Int)-52+((N.log2+(52-N.log2):Nat):Int)-23) (-149)=(N.log2:Int)-23:=by omega
 have q2:max ((0:Int)+(N.log2:Int)-23) (-149)=(N.log2:Int)-23:=by omega
 rw[q1,q2]
 have r1:((N.log2:Int)-52-((N.log2:Int)-23)).toNat=0:=by omega
 have r2:((N.log2:Int)-23-((N.log2:Int)-52)).toNat=29:=by omega
 have r3:((0:Int)-((N.log2:Int)-23)).toNat=23-N.log2:=by omega
 have r4:((N.log2:Int)-23-0).toNat=0:=by omega
 rw[r1,r2,r3,r4,cut_0]
 have hd:N <<< (52-N.log2)=N <<< (23-N.log2)*2 ^ 29:=by
  rw[Nat.shiftLeft_eq,Nat.shiftLeft_eq,Nat.mul_assoc,<-Nat.pow_add]
  congr 2;omega
 rw[Nat.shiftLeft_zero,cut_dvd s hp ⟨N <<< (23-N.log2),by rw[hd,Nat.mul_comm]⟩,hd,Nat.mul_div_cancel _ (Nat.two_pow_pos _)]
def tabS(s:Bool)(N:Nat):Bool:=
 (!(single.read (single.nearest s N 0)).isInfinity&&(match single.add (single.nearest s N 0) 0 with
  |some r=>Nat.beq r (FloatKind.f32.nearest (sg s N))
  |none=>false))
theorem tab_ok:((List.range 2048).all λN=>tabS false N&&tabS true N)=true:=by kernel_rfl
theorem xm9{s:Bool}{N:Nat}(h:N<2048):single.nearest s (N <<< (52-N.log2)) ((N.log2:Int)-52)=single.nearest s N 0/\(single.read (single.nearest s N 0)).isInfinity=false/\single.add (single.nearest s N 0) 0=some (FloatKind.f32.nearest (sg s N)):=by
 have h1:=xtg.mp tab_ok N (xts.mpr h)
 rw[xte]at h1
 have h2:tabS s N=true:=by
  cases s
  .exact h1.1
  .exact h1.2
 unfold tabS at h2
 rw[xte]at h2
 obtain⟨b,c⟩:=h2
 refine⟨scale_s s h,by simpa using b,?_⟩
 split at c
 .rename_i r hr
  rw[hr,xtj c]
 .cases c
def Js(n:Int)(x:Nat):Prop:=∃s,sg s n.natAbs=n/\x=single.nearest s n.natAbs 0
def Fzs(a b:Int)(v:Value):Prop:=∃x y,v=.complex .f32 x y/\Js a x/\Js b y
theorem sg_self(n:Int):sg (decide (n<0)) n.natAbs=n:=by
 unfold sg
 by_cases h:n<0
 .simp[h];omega
 .simp[h];omega
theorem single_0(s:Bool)(e:Int):single.nearest s 0 e=single.nearest s 0 0:=by
 unfold Format.nearest
 rw[xta rfl,xta rfl]
theorem f2s{w:Nat}{n:Int}(h:IsI w n)(hn:n.natAbs<2048){P:Program}:OkR P (Conv.floatToFloat .f64 w .f32) (λv=>∃x,v=.float .f32 x/\Js n x):=by
 obtain⟨s,m,e,h1,h2,h3,h4⟩:=h
 have hv:=I_abs h4
 have hs:sg s n.natAbs=n:=by
  rw[hv,xhi]at h4
  have hp:(0:Int)<2 ^ 1074:=Int.pow_pos (by decide)
  refine Int.eq_of_mul_eq_mul_right (Int.ne_of_gt hp) ?_
  rw[<-h4,Int.natCast_pow];rfl
 have hx:single.nearest s m e=single.nearest s n.natAbs 0:=by
  by_cases h0:n.natAbs=0
  .have:m=0:=by
    rw[h0,xty]at hv
    unfold sv at hv
    rcases Nat.mul_eq_zero.mp hv with q|q
    .exact q
    .exact absurd q (Nat.ne_of_gt (Nat.two_pow_pos _))
   rw[this,h0,single_0]
  .obtain⟨g1,g2⟩:=norm_I h1 h2 (by omega) hn hv
   rw[g1,g2]
   exact(xm9 hn).1
 unfold Conv.floatToFloat
 rw[xtb (by decide)]
 simp only[show FloatKind.f64.decode w=double.read w from rfl,h1]
 have hi:(FloatKind.f32.decode (FloatKind.f32.encode (.number s m e))).isInfinity=false:=by
  show(single.read (single.nearest s m e)).isInfinity=false
  rw[hx]
  exact(xm9 hn).2.1
 simp only[hi]
 exact OkR.pure ⟨single.nearest s n.natAbs 0,by rw[<-hx];rfl,s,hs,rfl⟩
theorem c2s{x y:Nat}{a b:Int}(hx:IsI x a)(hy:IsI y b)(ha:a.natAbs<2048)(hb:b.natAbs<2048){P:Program}:OkR P (Conv.complexToComplex .f64 x y .f32) (Fzs a b):=by
 unfold Conv.complexToComplex
 refine OkR.bind (Q:=λv=>∃x,v=.float .f32 x/\Js a x) ?_ (f2s hx ha)
 rintro _ ⟨u,rfl,hu⟩
 refine OkR.bind (Q:=λv=>∃x,v=.float .f32 x/\Js b x) ?_ (f2s hy hb)
 rintro _ ⟨w,rfl,hw⟩
 exact OkR.pure ⟨u,w,rfl,hu,hw⟩
theorem add0_s{n:Int}{x:Nat}(h:Js n x)(hn:n.natAbs<2048):single.add x 0=some (FloatKind.f32.nearest n):=by
 obtain⟨s,h1,rfl⟩:=h
 rw[(xm9 hn).2.2,h1]
theorem one_Zs{a b:Int}{v:Value}(h:Fzs a b v):one1 v:=by
 obtain⟨x,y,rfl,-⟩:=h
 exact⟨rfl,rfl,λb hb=>by cases hb⟩
theorem ar_add0{n:Int}{x:Nat}(h:Js n x)(hn:n.natAbs<2048):Op.Complex.arith .add .f32 x 0=.pure (FloatKind.f32.nearest n):=by
 unfold Op.Complex.arith Op.floatArith
 show(Sem.bind (match single.add x 0 with
  |some r=>Pure.pure (Value.float .f32 r)
  |none=>_) _)=_
 rw[add0_s h hn];rfl
theorem xp9{n b:Int}(hn:bd n 2047)(h1:1<=b):rnd (b*n) b=n:=by
 have e:(2*(b*n)+b) / (2*b)=n:=by
  have:2*(b*n)+b=b+2*b*n:=by rw[Int.mul_assoc];omega
  rw[this,Int.add_mul_ediv_left _ _ (by omega),Int.ediv_eq_zero_of_lt (by omega) (by omega)]
  omega
 unfold rnd
 unfold bd at hn
 rw[e]
 split<;>split<;>omega
variable{a:AV}{D:List Px}{L S:Int}
theorem smp_whole(hR:RtI L S D){k:Int}(hk:wi k 0 2=true)(p q:Int):smpM L S D k (16*p) (16*q)=atM L S D p q:=by
 have hb:=xfo hR p q
 obtain⟨s1,s2,s3,s4,s5,s6⟩:=kS_bd hk
 have e1:16*p % 16=0:=by omega
 have e2:16*q % 16=0:=by omega
 have e3:16*p / 16=p:=by omega
 have e4:16*q / 16=q:=by omega
 have key:smpX L S D k (16*p) (16*q)=kS k*kS k*(atM L S D p q).1/\smpY L S D k (16*p) (16*q)=kS k*kS k*(atM L S D p q).2:=by
  unfold smpX smpY
  rw[e1,e2,e3,e4,kw_0 hk]
  have:=wi_t hk
  have:k=0\/k=1\/k=2:=by omega
  rcases this with rfl|rfl|rfl
  .simp[xei,rowS,kA,kS]
  .simp[xei,rowS,kA,kS]
  .simp[xei,rowS,kA,kS,show p-1+1=p by omega,show q-1+1=q by omega]
 unfold smpM
 rw[key.1,key.2,xp9 hb.1 s3,xp9 hb.2 s3]
theorem el1(objs:Id->Option Ob)(x y:Nat):elems objs 1 (.slit [C32 x y] 1 true)=some ([C32 x y],1):=rfl
theorem xpa(L S:Int):xd4 [I 0,I 0,nilS] [(0,1,I L),(1,1,I S)]=some (.agg [I L,I S,nilS]):=rfl
theorem sh_bd{t den:Int}(ht:bd t 127000000000000000)(h1:0<den):bd ((32*t+den) / (2*den)) 2100000000000000000:=by
 unfold bd at *
 constructor
 .exact Int.le_ediv_of_mul_le (by omega) (by omega)
 .exact Int.le_of_lt_add_one (Int.ediv_lt_of_lt_mul (by omega) (by omega))
def pxR(L S:Int)(D:List Px)(k:Int)(f:Aff)(l s:Nat):Px:=spx (smpM L S D k (16*l+shL f l s) (16*s+shS f l s))
def rowR(L S:Int)(D:List Px)(k:Int)(f:Aff)(l s n:Nat):List Px:=(List.range' s n).map (pxR L S D k f l)
def allR(L S:Int)(D:List Px)(k:Int)(f:Aff)(rs l n:Nat):List Px:=(List.range' l n).flatMap λl=>rowR L S D k f l 0 rs
theorem rowR_s(L S:Int)(D:List Px)(k:Int)(f:Aff)(l s n:Nat):rowR L S D k f l s (n+1)=pxR L S D k f l s::rowR L S D k f l (s+1) n:=by
 unfold rowR;rw[xwi,xtp]
theorem allR_s(L S:Int)(D:List Px)(k:Int)(f:Aff)(rs l n:Nat):allR L S D k f rs l (n+1)=rowR L S D k f l 0 rs++allR L S D k f rs (l+1) n:=by
 unfold allR;rw[xwi,xu7]
theorem xil(L S:Int)(D:List Px)(k:Int)(f:Aff)(l s n:Nat):(rowR L S D k f l s n).length=n:=by
 unfold rowR;simp
theorem xjw(L S:Int)(D:List Px)(k:Int)(f:Aff)(rs:Nat):∀n l:Nat,(allR L S D k f rs l n).length=n*rs
 |0,l=>by simp[allR]
 |n+1,l=>by rw[allR_s,xum,xil,xjw L S D k f rs n (l+1),xua];omega
variable{a:AV}{D:List Px}{L S:Int}
def okR(t:Nat):Id->Prop:=λid=>id.1=0/\id.2.2=t
structure RInv (t:Nat) (a:AV) (L S k rl rs:Int) (f:Aff) (v:AV) (acc:List Px) (m:Mem):Prop where
 g2:m.get (0,0,2)=some (.row [I L,I S,a] 0 false)
 g3:m.get (0,1,3)=some (.row ([I k,I rl,I rs]++f.c) 0 false)
 g4:m.get (0,2,4)=some (.row [I 0,I 0,nilS] 0 false)
 g5:m.get (0,8,5)=some (.row [I rl,I rs,v] 0 false)
 gk:Gk 1 pxE (okR t) m v acc
theorem RInv.ends{t:Nat}{k rl rs:Int}{f:Aff}{v:AV}{acc:List Px}{m:Mem}(h:RInv t a L S k rl rs f v acc m)(ht:t≠4):∃v',Go.Ix.frz (m.set (0,2,4) (.row [I rl,I rs,v] 0 false)).get deep (.agg [I rl,I rs,v])=some (.agg [I rl,I rs,v'])/\Sl pxE v' acc:=by
 have hG2:Gk 1 pxE (okR t) (m.set (0,2,4) (.row [I rl,I rs,v] 0 false)) v acc:=h.gk.frame λid hid=>Mem.get_set_ne (by rintro rfl;exact ht hid.2.symm)
 obtain⟨v',hv',hf⟩:=hG2.frz (k:=3) pxL pxS
 exact⟨v',xlw hf,hv'⟩
section
variable(d:Nat)(hs:FHs)(ha:Sl pxE a D)(hR:RtI L S D){k:Int}(hk:wi k 0 2=true){f:Aff}(hf:AffIn f)
include ha hR hk hf
theorem l_res1(rec0:xep){rl rs:Nat}(hrl:rl<=64)(hrs:rs<=64)(l:Nat)(hl:l<=63){t15 t16:AV}:∀(n s j:Nat) (v:AV) (acc:List Px) (m:Mem) (fc:Nat),s+n=rs->n<j->acc.length<=64*l+s->RInv 48 a L S k rl rs f v acc m ->
 ∃v' m' fc',x2n (xcu (d+4)) hs 0 rec0 j (.ptr (0,0,2) 0 0) (.ptr (0,1,3) 0 0) (.ptr (0,2,4) 0 0) (.ptr (0,8,5) 0 0) (I l) t15 t16 (I rs) (I s) m fc
  = x4e (xcu (d+4)) hs 0 rec0 (.ptr (0,0,2) 0 0) (.ptr (0,1,3) 0 0) (.ptr (0,2,4) 0 0) (.ptr (0,8,5) 0 0) t15 t16 m' fc'/\RInv 48 a L S k rl rs f v' (acc++rowR L S D k f l s n) m':=by
 intro n
 induction n with
 |zero=>
  intro s j v acc m fc hn hj hacc hI
  obtain⟨j,rfl⟩:∃i,j=i+1:=⟨j-1,by omega⟩
  have hk0:¬((s:Int)<(rs:Int)):=by omega
  refine⟨v,m,fc+1,?_,by simpa[rowR]using hI⟩
  simp only[x2n]
  unfold x4f
  simp[hk0]
 |succ n ih=>
  intro s j v acc m fc hn hj hacc hI
  obtain⟨j,rfl⟩:∃i,j=i+1:=⟨j-1,by omega⟩
  have hk0:(s:Int)<(rs:Int):=by omega
  obtain⟨g2,g3,g4,g5,gk⟩:=hI
  have hp:=λm=>w_parts3 (d+1) hf (x:=l) (y:=s) (by unfold bd;omega) (by unfold bd;omega) m
  have b1:bd (shL f l s) 2100000000000000000:=sh_bd (hf.tl (by unfold bd;omega) (by unfold bd;omega)) hf.d0
  have b2:bd (shS f l s) 2100000000000000000:=sh_bd (hf.ts (by unfold bd;omega) (by unfold bd;omega)) hf.d0
  have hsm:=λm=>w_sample d ha hR hk (y:=16*l+shL f l s) (x:=16*s+shS f l s) (by unfold bd at *;omega) (by unfold bd at *;omega) m
  obtain⟨M,hM⟩:∃M:Mem,(m.new (0,fc+9,8) (.row [I 0,I 0] 0 false)).set (0,fc+9,8) (.row [I (shL f l s),I (shS f l s)] 0 false)=M:=⟨_,rfl⟩
  have fr:∀id:Id,id.2.2≠8->M.get id=m.get id:=λid h=>by
   rw[<-hM,Mem.get_set_ne (by rintro rfl;exact h rfl),Mem.get_new_ne (by rintro rfl;exact h rfl)]
  have gk1:Gk 1 pxE (okR 48) M v acc:=gk.frame λid hid=>fr id (by rw[hid.2];decide)
  have e8:M.get (0,fc+9,8)=some (.row [I (shL f l s),I (shS f l s)] 0 false):=by rw[<-hM];simp
  obtain⟨v2,m2,hA,hG2,c2,o2,hn2,hfr⟩:=gk1.app pxL (by decide) (bytes:=8) (id0:=(0,fc+29,48)) ⟨rfl,rfl⟩ (by unfold xda;omega) (pxR L S D k f l s)
  have hA':∀(k':AV->Mem->O2),sApp 1 8 (0,fc+29,48) (some ([sPX (smpM L S D k (16*l+shL f l s) (16*s+shS f l s))],1)) v M k'=k' v2 m2:=hA
  have fr2:∀id:Id,id.2.2≠8->id.2.2≠48->m2.get id=m.get id:=λid h h'=>by
   rw[hfr _ (λq=>h' q.2),fr id h]
  obtain⟨v',m',fc',e,hI'⟩:=ih (s+1) j v2 (acc++[pxR L S D k f l s]) (m2.set (0,8,5) (.row [I rl,I rs,v2] 0 false)) (fc+34) (by omega) (by omega) (by simp;omega)
   ⟨by rw[Mem.get_set_ne (by decide),fr2 _ (by decide) (by decide)];exact g2,by rw[Mem.get_set_ne (by decide),fr2 _ (by decide) (by decide)];exact g3,by rw[Mem.get_set_ne (by decide),fr2 _ (by decide) (by decide)];exact g4,by simp,hG2.frame λid hid=>Mem.get_set_ne (by rintro rfl;exact absurd hid.2 (by decide))⟩
  refine⟨v',m',fc',?_,by rw[rowR_s];simpa using hI'⟩
  rw[<-e]
  have G2:M.get (0,0,2)=some (.row [I L,I S,a] 0 false):=by rw[fr _ (by decide)];exact g2
  have G3:M.get (0,1,3)=some (.row ([I k,I rl,I rs]++f.c) 0 false):=by rw[fr _ (by decide)];exact g3
  have G5:M.get (0,8,5)=some (.row [I rl,I rs,v] 0 false):=by rw[fr _ (by decide)];exact g5
  have G5':m2.get (0,8,5)=some (.row [I rl,I rs,v] 0 false):=by rw[fr2 _ (by decide) (by decide)];exact g5
  simp only[x2n]
  conv=>lhs;unfold x4f
  unfold bd at b1 b2
  simp only[Aff.c]at g3 G3 hp
  simp only[xev,hk0,xvz,xdd,xfj]
  have bs:xd4 x83 [(0,7,AV.agg [I f.den,I f.l0,I f.l1,I f.l2,I f.s0,I f.s1,I f.s2])]=some (AV.agg [I f.den,I f.l0,I f.l1,I f.l2,I f.s0,I f.s1,I f.s2]):=by rw[z_shift3];rfl
  have e16:∀q:Nat,(q:Int)*16=16*q:=λq=>Int.mul_comm _ _
  simp(disch:=omega) [g3,Aff.c,bs,hp,xe3,e16]
  rw[hM]
  simp(disch:=omega) [G2,G3,G5,g2,g5,e8,sIxA,asI,build_F,xd6,hsm,z_c64]
  rw[xic (xlv _ _) rfl rfl,el1,hA']
  simp[G5',o2,c2,tR,xdb,disj,cAp,mkM,clean,ha.clean1]
theorem l_res0{rl rs:Nat}(hrl:rl<=64)(hrs:rs<=64):∀(n l j:Nat) (v:AV) (acc:List Px) (m:Mem) (fc:Nat),l+n=rl->n<j->acc.length<=64*l->RInv 48 a L S k rl rs f v acc m ->
 ∃v' m' fc',x1m (xcu (d+4)) hs 0 j (.ptr (0,0,2) 0 0) (.ptr (0,1,3) 0 0) (.ptr (0,2,4) 0 0) (.ptr (0,8,5) 0 0) (I rl) (I l) m fc
  = x4d (xcu (d+4)) hs 0 (.ptr (0,2,4) 0 0) (.ptr (0,8,5) 0 0) m' fc'/\RInv 48 a L S k rl rs f v' (acc++allR L S D k f rs l n) m':=by
 intro n
 induction n with
 |zero=>
  intro l j v acc m fc hn hj hacc hI
  obtain⟨j,rfl⟩:∃i,j=i+1:=⟨j-1,by omega⟩
  have hk0:¬((l:Int)<(rl:Int)):=by omega
  refine⟨v,m,fc+1,?_,by simpa[allR]using hI⟩
  simp only[x1m]
  unfold x4g
  simp[hk0]
 |succ n ih=>
  intro l j v acc m fc hn hj hacc hI
  obtain⟨j,rfl⟩:∃i,j=i+1:=⟨j-1,by omega⟩
  have hk0:(l:Int)<(rl:Int):=by omega
  obtain⟨v1,m1,fc1,e1,hI1⟩:=l_res1 d hs ha hR hk hf (x1m (xcu (d+4)) hs 0 j) hrl hrs l (by omega) (t15:=I rl) (t16:=I l) rs 0 NN v acc m (fc+1+5) (by omega) (by rw[xdy];omega) (by omega) hI
  have hlen:(acc++rowR L S D k f l 0 rs).length<=64*(l+1):=by rw[xum,xil];omega
  obtain⟨v',m',fc',e,hI'⟩:=ih (l+1) j v1 _ m1 (fc1+2) (by omega) (by omega) hlen hI1
  refine⟨v',m',fc',?_,by rw[allR_s,<-List.append_assoc];exact hI'⟩
  rw[<-e]
  have g3:=hI.g3
  simp only[x1m]
  conv=>lhs;unfold x4g x84
  simp only[xev,hk0,xvz,xdd,xfj]
  simp only[Aff.c]at g3
  simp[g3]
  rw[show(0:Int)=((0:Nat):Int)from rfl,e1]
  unfold x4e
  simp(disch:=omega) [xd6]
theorem xrf{rl rs:Nat}(hrl:rl<=64)(hrs:rs<=64):∃b,Sl pxE b (allR L S D k f rs 0 rl)/\∀m,xcv (xcu (d+5)) x21 [.agg [I L,I S,a],.agg ([I k,I rl,I rs]++f.c)] m=some (.agg [I rl,I rs,b],m):=by
 obtain⟨M,hM⟩:∃M:Mem,((((((⟨[],1⟩:Mem).new (0,0,2) (.row [I L,I S,a] 0 false)).new (0,1,3) (.row ([I k,I rl,I rs]++f.c) 0 false)).new (0,2,4) (.row [I 0,I 0,nilS] 0 false)).new (0,8,5) (.row [I 0,I 0,nilS] 0 false)).set (0,8,5) (.row [I rl,I rs,nilS] 0 false))=M:=⟨_,rfl⟩
 have hI:RInv 48 a L S k rl rs f nilS [] M:=⟨by rw[<-hM];simp,by rw[<-hM];simp,by rw[<-hM];simp,by rw[<-hM];simp,Gk.nil⟩
 have g3:=hI.g3
 obtain⟨v',m',fc',e,hI'⟩:=l_res0 d [] ha hR hk hf hrl hrs rl 0 NN nilS [] M 13 (by omega) (by rw[xdy];omega) (by simp) hI
 obtain⟨v2,hfz,hv2⟩:=hI'.ends (by decide)
 rw[xuz]at hv2
 refine⟨v2,hv2,λm=>xd3 (by simp[ha.still1,Aff.c]) ?_ m⟩
 rw[x9r]
 unfold x6j x4h
 simp only[Aff.c,xuy,xuz]at hM g3
 simp[mem0,ha.one,xdv,xcy,xpa,Aff.c]
 rw[hM]
 unfold x85
 simp[g3]
 rw[show(0:Int)=((0:Nat):Int)from rfl,e]
 unfold x4d
 have h4:=hI'.g4
 have h5:=hI'.g5
 have o:=hI'.gk.one
 simp[h4,h5,o.1,o.2,sLdP]
 exact⟨_,_,_,rfl,hfz,rfl⟩
end
theorem s_c128{r:AV}{p q:Int}(hr:Is (Fzi p q) r)(hp:bd p 2047)(hq:bd q 2047):∃r2,sCvt Try.prog x5 x8 r=some r2/\Is (Fzs p q) r2:=by
 unfold bd at hp hq
 refine sCvt_R (A:=Fzi p q) hr (λu hu=>by obtain⟨x,y,rfl,-⟩:=hr.2 u hu;rfl) ?_
 rintro _ ⟨x,y,rfl,hx,hy⟩
 have h:nfS Try.prog (convert x5 x8 (.complex .f64 x y))=nfS Try.prog (Conv.complexToComplex .f64 x y .f32):=by kernel_rfl
 rw[<-xeh,h,xeh]
 exact(c2s hx hy (by omega) (by omega)).mono λv hv=>⟨one_Zs hv,hv⟩
theorem s_add0{r:AV}{p q:Int}{t:TypeId}{X Y:Operand}(hr:Is (Fzs p q) r)(hp:bd p 2047)(hq:bd q 2047):sBin Try.prog .add t X Y r (AV.sc (.complex .f32 0 0))=some (sPX (p,q)):=by
 unfold bd at hp hq
 refine sBin_1 (B:=(·=.complex .f32 0 0)) (v0:=.complex .f32 (f32w p) (f32w q)) hr (Is.sc rfl) rfl ?_
 rintro _ _ ⟨x,y,rfl,hx,hy⟩ rfl
 have hb:binS .add t X Y [.complex .f32 x y,.complex .f32 0 0]=Op.complexOp .add .f32 x y 0 0:=rfl
 rw[hb]
 have e:Op.complexOp .add .f32 x y 0 0=.pure (.complex .f32 (f32w p) (f32w q)):=by
  show(do pure (Value.complex .f32 (<-Op.Complex.arith .add .f32 x 0) (<-Op.Complex.arith .add .f32 y 0)):Sem Value)=_
  rw[ar_add0 hx (by omega),ar_add0 hy (by omega)];rfl
 rw[e]
 exact OkR.pure rfl
theorem frz_img5{objs:Id->Option Ob}{L S:Int}{v v':AV}(h:Go.Ix.frz objs 4 v=some v'):Go.Ix.frz objs 5 (.agg [I L,I S,v])=some (.agg [I L,I S,v']):=by
 show([I L,I S,v].mapM (Go.Ix.frz objs 4)).map AV.agg=_
 simp only[xue,xvn,h]
 rfl
theorem grid_eq{α:Type}(g:Nat->Nat->α){w:Nat}(hw:0<w):∀n:Nat,(List.range (n*w)).map (λi=>g (i / w) (i % w))=(List.range n).flatMap λl=>(List.range w).map (g l)
 |0=>by simp
 |n+1=>by
  rw[xua,List.range_add,xvo,grid_eq g hw n,xwe,List.flatMap_append]
  congr 1
  simp only[List.map_map,xu7,List.flatMap_nil,xwd]
  refine xvk λi hi=>?_
  have hi:=xts.mp hi
  show g ((n*w+i) / w) ((n*w+i) % w)=g n i
  rw[Nat.mul_comm n w,Nat.mul_add_div hw,Nat.mul_add_mod,Nat.div_eq_of_lt hi,Nat.mod_eq_of_lt hi,xv0]
def gRow{α:Type}(g:Nat->Nat->α)(l s n:Nat):List α:=(List.range' s n).map (g l)
def gAll{α:Type}(g:Nat->Nat->α)(w l n:Nat):List α:=(List.range' l n).flatMap λl=>gRow g l 0 w
theorem gAll_s{α:Type}(g:Nat->Nat->α)(w l n:Nat):gAll g w l (n+1)=gRow g l 0 w++gAll g w (l+1) n:=by
 unfold gAll;rw[xwi,xu7]
theorem gRow_len{α:Type}(g:Nat->Nat->α)(l s n:Nat):(gRow g l s n).length=n:=by
 unfold gRow;simp
theorem gAll_eq{α:Type}(g:Nat->Nat->α){w:Nat}(hw:0<w)(n:Nat):gAll g w 0 n=(List.range (n*w)).map (λi=>g (i / w) (i % w)):=by
 rw[grid_eq g hw n]
 unfold gAll gRow
 rw[<-List.range_eq_range',<-List.range_eq_range']
variable{a:AV}{D:List Px}{L S:Int}
def wpx(L S:Int)(D:List Px)(x y:Int)(l s:Nat):Px:=spx (atM L S D (x+l) (y+s))
def okC:Id->Prop:=λid=>id.2.2=34
def cutL(L S:Int)(D:List Px)(x y:Int)(w:Nat)(i:Nat):List Px:=(List.range i).map λi=>wpx L S D x y (i / w) (i % w)
structure CInv (L S:Int) (D:List Px) (x y z w:Int) (i:Nat) (m:Mem):Prop where
 ex:∃v,m.get (0,15,7)=some (.row [I z,I w,v] 0 false)/\Gk 1 pxE okC m v (cutL L S D x y w.toNat i)
 g4:m.get (0,2,4)=some (.row [I 0,I 0,nilS] 0 false)
theorem xma{m m':Mem}(h:m'.hp=m.hp)(i:Id):m'.get i=m.get i:=by
 show hget m'.hp i=hget m.hp i
 rw[h]
theorem w_Cut(d:Nat)(ha:Sl pxE a D)(hl:D.length<=5000)(x y z w:Int)(he:cwE L S D x y z w=0):∃b,Sl pxE b (gAll (wpx L S D x y) w.toNat 0 z.toNat)/\∀m,xcv (xcu (d+9)) x17 [.agg [I L,I S,a],.agg [I x,I y,I z,I w]] m=some (.tup [.agg [I z,I w,b],I 0],m):=by
 have hce:=λm=>xrd (L:=L) (S:=S) d ha hl x y z w m
 rw[he]at hce
 have c0:(imE L S D).2=0:=by
  unfold cwE at he
  by_cases c:(imE L S D).2=0
  .exact c
  .rw[xtb c]at he;exact absurd he c
 have hR:=xgf c0
 have we:winE L S x y z w=0:=by unfold cwE at he;rwa[xta c0]at he
 have hzw:(wi z 1 8=true/\wi w 1 8=true)/\fitB L S x y z w=true:=by
  unfold winE at we
  cases c1:wi z 1 8
  .simp[c1]at we
  cases c2:wi w 1 8
  .simp[c1,c2]at we
  cases c3:fitB L S x y z w
  .simp[c1,c2,c3]at we
  exact⟨⟨rfl,rfl⟩,rfl⟩
 obtain⟨⟨hz,hw⟩,hf⟩:=hzw
 have hz:=wi_t hz
 have hw:=wi_t hw
 unfold fitB at hf
 rw[xte]at hf
 have hx:=wi_t hf.1
 have hy:=wi_t hf.2
 have hL:=wi_t hR.l
 have hS:=wi_t hR.s
 obtain⟨M,hM⟩:∃M:Mem,((((((⟨[],1⟩:Mem).new (0,0,2) (.row [I L,I S,a] 0 false)).new (0,1,3) (.row [I x,I y,I z,I w] 0 false)).new (0,2,4) (.row [I 0,I 0,nilS] 0 false)).new (0,15,7) (.row [I 0,I 0,nilS] 0 false)).set (0,15,7) (.row [I z,I w,nilS] 0 false))=M:=⟨_,rfl⟩
 have g2:M.get (0,0,2)=some (.row [I L,I S,a] 0 false):=by rw[<-hM];simp
 have g3:M.get (0,1,3)=some (.row [I x,I y,I z,I w] 0 false):=by rw[<-hM];simp
 have h0:CInv L S D x y z w 0 M:=⟨⟨nilS,by rw[<-hM];simp,Gk.nil⟩,by rw[<-hM];simp⟩
 have hst:∀(i:Nat) (m m':Mem),CInv L S D x y z w i m->m'.hp=m.hp->m.next<=m'.next->CInv L S D x y z w i m':=λi m m' h hp _=>by
  obtain⟨⟨v,q1,q2⟩,q3⟩:=h
  exact⟨⟨v,by rw[xma hp];exact q1,q2.frame λid _=>xma hp id⟩,by rw[xma hp];exact q3⟩
 let h:List AV->Mem->Option Mem:=λargs m=>bif Nat.beq args.length 2&&true then x33 (xcu (d+8)) [] m.next (.ptr (0,15,7) 0 0) (args.getD 1 U) ⟨m.hp,m.next+1⟩ 0 else none
 have hb:∀(i:Nat) (r:AV) (m:Mem),(i:Int)<z*w->Is (Fzi (atM L S D (x+i / w) (y+i % w)).1 (atM L S D (x+i / w) (y+i % w)).2) r->CInv L S D x y z w i m->∃m2,h [I i,r] m=some m2/\CInv L S D x y z w (i+1) m2:=by
  intro i r m hi hr hI
  have hat:=xfo hR (x+i / w) (y+i % w)
  obtain⟨r2,e2,hr2⟩:=s_c128 hr hat.1 hat.2
  have e3:=λX Y=>s_add0 (t:=x8) (X:=X) (Y:=Y) hr2 hat.1 hat.2
  obtain⟨⟨v,q1,q2⟩,q4⟩:=hI
  have hzw64:z*w<=8*8:=xve (by omega) (by omega) (by omega) (by omega)
  have q2':Gk 1 pxE okC ⟨m.hp,m.next+1⟩ v (cutL L S D x y w.toNat i):=q2.frame λid _=>rfl
  have hrm:xda ((cutL L S D x y w.toNat i).length+1) 8:=by unfold xda cutL;simp;omega
  obtain⟨v2,m2,hA,hG2,c2,o2,hn2,hfr⟩:=q2'.app pxL (by decide) (bytes:=8) (id0:=(m.next,7,34)) (show okC (m.next,7,34)from rfl) hrm (spx (atM L S D (x+i / w) (y+i % w)))
  have hA':∀(k':AV->Mem->Option Mem),sApp 1 8 (m.next,7,34) (some ([sPX (atM L S D (x+i / w) (y+i % w))],1)) v ⟨m.hp,m.next+1⟩ k'=k' v2 m2:=hA
  have G7:m2.get (0,15,7)=some (.row [I z,I w,v] 0 false):=by rw[hfr _ (by unfold okC;decide)];exact q1
  refine⟨m2.set (0,15,7) (.row [I z,I w,v2] 0 false),?_,?_⟩
  .show x33 (xcu (d+8)) [] m.next (.ptr (0,15,7) 0 0) r ⟨m.hp,m.next+1⟩ 0=_
   unfold x33 x7s
   have q1':(⟨m.hp,m.next+1⟩:Mem).get (0,15,7)=some (.row [I z,I w,v] 0 false):=q1
   simp[q1',e2,e3,z_c64]
   rw[xic (xlv _ _) rfl rfl,el1,hA']
   simp[G7,o2,c2]
  .refine⟨⟨v2,by simp,?_⟩,by rw[Mem.get_set_ne (by decide),hfr _ (by unfold okC;decide)];exact q4⟩
   have hl1:cutL L S D x y w.toNat (i+1)=cutL L S D x y w.toNat i++[spx (atM L S D (x+i / w) (y+i % w))]:=by
    unfold cutL
    rw[xwe,xvo]
    congr 1
    simp only[xtp,xu8]
    congr 1
    unfold wpx
    rw[Int.natCast_ediv,Int.natCast_emod,xuq (by omega)]
   rw[hl1]
   exact hG2.frame λid hid=>Mem.get_set_ne (by rintro rfl;exact absurd hid (by unfold okC;decide))
 obtain⟨m',e,hI⟩:=xm5 (d+5) (hh:=[((0,21,0),h)]) (id:=(0,21,0)) ha hR rfl rfl (x:=x) (y:=y) (z:=z) (w:=w) (by omega) (by omega) (by unfold bd;omega) (by unfold bd;omega) (CInv L S D x y z w) hst hb h0
 obtain⟨⟨v,q1,q2⟩,q4⟩:=hI
 have hG2:Gk 1 pxE okC (m'.set (0,2,4) (.row [I z,I w,v] 0 false)) v (cutL L S D x y w.toNat (z*w).toNat):=q2.frame λid hid=>Mem.get_set_ne (by rintro rfl;exact absurd hid (by unfold okC;decide))
 obtain⟨v',hv',hf⟩:=hG2.frz (k:=2) pxL pxS
 have hzn:(z*w).toNat=z.toNat*w.toNat:=by
  have:z*w=((z.toNat*w.toNat:Nat):Int):=by rw[Int.natCast_mul,xuq (by omega),xuq (by omega)]
  omega
 refine⟨v',?_,λm=>xd3 (by simp[ha.still1]) ?_ m⟩
 .rw[gAll_eq _ (by omega)]
  unfold cutL at hv'
  rw[hzn]at hv'
  exact hv'
 rw[x9i]
 unfold x6a x42
 simp[mem0,ha.one,xdv,xcy,hce,xpa]
 rw[hM]
 unfold x7u
 have wv:=λm=>xm4 (L:=L) (S:=S) (d+7) ha.still1 ha.one x y z w m
 simp[g2,g3,xm3,wv]
 unfold x7t
 show RetF _ ((xcu (d+8) [((0,21,0),h)] xh [.yld (0,21,0),.plit [I x,I y,I z,I w],.plit [I L,I S,a]] M).bind λp=>x41 (xcu (d+8)) [] 0 (AV.ptr (0,2,4) 0 0) (AV.ptr (0,15,7) 0 0) p.snd (21+1))
 rw[e]
 have o:=q2.one
 unfold x41
 simp[q1,q4,o.1,o.2,sLdP]
 exact RetF.mk (frz_tup2 (frz_img5 hf) rfl) rfl
end Go.Ix
