import Derived.Test.YtgediplphidhpaaGreatWg10
import Derived.Test.YtgediplphidhpaaGreatWg4
import Derived.Test.YtgediplphidhpaaGreatWg1
set_option linter.unusedSimpArgs false
set_option linter.unusedVariables false
set_option exponentiation.threshold 3000
namespace Go.Ix
open Go.Proofs Ieee
def val(x:Nat):Int:=match fcs x with
 | .num s V=>sg s (V / 2 ^ 1074)
 |_=>0
def RtP(x:Nat):Prop:=∃s k,fcs x=.num s (k*2 ^ 1074)/\k<=2047
theorem RtP.val{x:Nat}(h:RtP x):∃s k,fcs x=.num s (k*2 ^ 1074)/\k<=2047/\val x=sg s k:=by
 obtain⟨s,k,h1,h2⟩:=h
 refine⟨s,k,h1,h2,?_⟩
 unfold Go.Ix.val
 rw[h1]
 show sg s (k*2 ^ 1074 / 2 ^ 1074)=_
 rw[Nat.mul_div_cancel _ (Nat.two_pow_pos _)]
theorem RtP.bd{x:Nat}(h:RtP x):-2047<=Go.Ix.val x/\Go.Ix.val x<=2047:=by
 obtain⟨s,k,-,h2,h3⟩:=h.val
 rw[h3]
 cases s<;>simp[sg]<;>omega
theorem x13m{c:Fc}(h1:c.whole=true)(h2:c.big=false):∃s k,c=.num s (k*2 ^ 1074)/\k<=2047:=by
 obtain⟨s,V,rfl⟩:=xvv h1
 have h1:(V % 2 ^ 1074 == 0)=true:=h1
 have h2:decide (2047*2 ^ 1074<V)=false:=h2
 have g1:V % 2 ^ 1074=0:=by simpa using h1
 have g2:¬2047*2 ^ 1074<V:=of_decide_eq_false h2
 have hd:=Nat.div_add_mod V (2 ^ 1074)
 have hp:0<2 ^ 1074:=Nat.two_pow_pos _
 refine⟨s,V / 2 ^ 1074,?_,?_⟩
 .congr 1
  rw[g1,Nat.mul_comm]at hd
  omega
 .exact Nat.le_of_lt_succ (Nat.div_lt_of_lt_mul (by
   generalize (2:Nat) ^ 1074=K at *
   have:K*(2047+1)=2047*K+K:=by omega
   omega))
theorem pxErr_0{p:Px}(h:xsf p=0):RtP p.1/\RtP p.2:=by
 unfold xsf pE at h
 cases c1:(fcs p.1).whole
 .rw[c1]at h;simp at h
 cases c2:(fcs p.2).whole
 .rw[c1,c2]at h;simp at h
 rw[c1,c2]at h
 cases b1:(fcs p.1).big
 rotate_left
 .rw[b1]at h;simp at h
 cases b2:(fcs p.2).big
 rotate_left
 .rw[b1,b2]at h;simp at h
 exact⟨x13m c1 b1,x13m c2 b2⟩
def RtD(D:List Px):Prop:=∀p∈D,RtP p.1/\RtP p.2
theorem chkS_0:∀(D:List Px) (k:Nat),(chkS k D).2=0->RtD D
 |[],_,_=>λ_ h=>by cases h
 |p::r,k,h=>by
  unfold chkS at h
  by_cases c:xsf p=0
  .rw[if_pos c]at h
   have:=chkS_0 r (k+1) h
   intro q hq
   rcases x19a.mp hq with rfl|hq
   .exact pxErr_0 c
   .exact this q hq
  .rw[if_neg c]at h;exact absurd h c
structure RtI (L S:Int) (D:List Px):Prop where
 l:wi L 1 64=true
 s:wi S 1 64=true
 n:(D.length:Int)=L*S
 d:RtD D
theorem xtv{L S:Int}{D:List Px}(h:(imE L S D).2=0):RtI L S D:=by
 unfold imE at h
 by_cases c:szE L S D.length=0
 .rw[if_pos c]at h
  unfold szE at c
  cases c1:wi L 1 64
  .rw[c1]at c;simp at c
  cases c2:wi S 1 64
  .rw[c1,c2]at c;simp at c
  rw[c1,c2]at c
  by_cases c3:(D.length:Int)=L*S
  .exact⟨c1,c2,c3,chkS_0 D 0 h⟩
  .simp[c3]at c
 .rw[if_neg c]at h;exact absurd h c
theorem Fz_i{x y:Nat}(hx:RtP x)(hy:RtP y){v:Value}(h:Fz (fcs x) (fcs y) v):Fzi (val x) (val y) v:=by
 obtain⟨s,k,h1,h2,h3⟩:=hx.val
 obtain⟨s',k',g1,g2,g3⟩:=hy.val
 rw[h1,g1]at h
 obtain⟨p,q,rfl,hp,hq⟩:=h
 rw[h3,g3]
 exact⟨p,q,rfl,Cl_I hp,Cl_I hq⟩
theorem s_c2ci{x y:Nat}(hx:RtP x)(hy:RtP y):∃r,sCvt Tryz.prog xd xa (C32 x y)=some r/\Is (Fzi (val x) (val y)) r:=by
 obtain⟨r,e,h⟩:=s_c2c x y
 exact⟨r,e,h.mono λv hv=>Fz_i hx hy hv⟩
def atM(L S:Int)(D:List Px)(l s:Int):Int×Int:=
 bif wi l 0 (L-1)&&wi s 0 (S-1)then(val (D.getD (l*S+s).toNat (0,0)).1,val (D.getD (l*S+s).toNat (0,0)).2)else(0,0)
theorem I_0:IsI 0 0:=⟨false,0,-1074,rfl,by omega,by omega,by
 show((0*2 ^ ((-1074:Int)+1074).toNat:Nat):Int)=0*2 ^ 1074
 rw[x19q,Int.zero_mul];rfl⟩
theorem at_in{L S l s:Int}{D:List Px}(hR:RtI L S D)(h1:wi l 0 (L-1)=true)(h2:wi s 0 (S-1)=true):0<=l*S+s/\l*S+s<D.length/\0<=l*S/\l*S<=4096:=by
 have a1:=wi_t h1
 have a2:=wi_t h2
 have a3:=wi_t hR.s
 have a4:=wi_t hR.l
 have b1:0<=l*S:=x19z (by omega) (by omega)
 have b2:l*S<=(L-1)*S:=x1aw (by omega) (by omega)
 have b3:(L-1)*S=L*S-S:=by rw[Int.sub_mul,x1ba]
 have b4:=xw0 hR.l hR.s
 have:=hR.n
 omega
variable{a:AV}{D:List Px}{L S:Int}
theorem w_at(d:Nat)(ha:Sl pxE a D)(hR:RtI L S D)(l s:Int)(m:Mem):∃r,xnu (xnt (d+2)) x2r [.agg [I L,I S,a],I l,I s] m=some (r,m)/\Is (Fzi (atM L S D l s).1 (atM L S D l s).2) r:=by
 have hl:=wi_t hR.l
 have hs:=wi_t hR.s
 cases c1:wi l 0 (L-1)
 .refine⟨.sc (.complex .f64 0 0),xo0 (by simp[ha.still1]) ?_ m,?_⟩
  .rw[xf3]
   unfold x5w x5m
   simp(disch:=omega) [mem0,ha.one,xqr,c1,xnx]
   exact RetF.st rfl rfl
  .unfold atM
   rw[c1]
   exact Is.sc ⟨0,0,rfl,I_0,I_0⟩
 cases c2:wi s 0 (S-1)
 .refine⟨.sc (.complex .f64 0 0),xo0 (by simp[ha.still1]) ?_ m,?_⟩
  .rw[xf3]
   unfold x5w x5m
   simp(disch:=omega) [mem0,ha.one,xqr,c1,c2,xnx]
   exact RetF.st rfl rfl
  .unfold atM
   rw[c1,c2]
   exact Is.sc ⟨0,0,rfl,I_0,I_0⟩
 obtain⟨b1,b2,b3,b4⟩:=at_in hR c1 c2
 have hk:(l*S+s).toNat<D.length:=by omega
 have ix:=ha.ixI pxL b1 b2
 rw[xp2 hk,x19b]at ix
 have hrt:=hR.d _ (x19j hk)
 obtain⟨r,e,hr⟩:=s_c2ci hrt.1 hrt.2
 have b5:=xw0 hR.l hR.s
 have b6:=hR.n
 refine⟨r,xo0 (by simp[ha.still1]) ?_ m,?_⟩
 .rw[xf3]
  unfold x5w x5m
  simp(disch:=omega) [mem0,ha.one,xqr,c1,c2,xnx,ix,pxE,e]
  exact RetF.st hr.oneZi.st rfl
 .unfold atM
  rw[c1,c2,x1a7,x19g hk]
  exact hr
theorem w_lies(d:Nat)(hb:still1 a=true)(ho:a.one=true)(L S l s p q:Int)(h1:w64 (L-p)=L-p)(h2:w64 (S-q)=S-q)(m:Mem):xnu (xnt (d+2)) x2w [.agg [I L,I S,a],I l,I s,I p,I q] m=some (B (wi l 0 (L-p)&&wi s 0 (S-q)),m):=by
 refine xo0 (by simp[hb]) ?_ m
 rw[xkk]
 unfold xep xcd
 cases c1:wi l 0 (L-p)
 .simp[mem0,ho,xpo,h1,h2,c1]
  exact RetF.st rfl rfl
 .simp[mem0,ho,xpo,h1,h2,c1]
  exact RetF.st rfl rfl
theorem s_f32i{x:Nat}(h:RtP x):sCvt Tryz.prog x9 xo4 (.sc (.float .f32 x))=some (I (val x)):=by
 obtain⟨s,k,h1,h2,h3⟩:=h.val
 refine sCvt_1 (A:=(·=.float .f32 x)) (Is.sc rfl) rfl (λu hu=>by subst hu;rfl) (λu hu=>?_)
 subst hu
 have hn:nfS Tryz.prog (convert x9 xo4 (.float .f32 x))=nfS Tryz.prog (Conv.floatToInt .f32 x .i64):=by kernel_rfl
 rw[<-xqd,hn,xqd]
 unfold Conv.floatToInt
 have ht:(FloatKind.f32.decode x).toInt .zero=some (sg s k):=by
  show(single.read x).toInt .zero=_
  unfold fcs at h1
  cases hr:single.read x with
  |nan=>rw[hr]at h1;cases h1
  |infinity=>rw[hr]at h1;cases h1
  |number s' m e=>
   rw[hr]at h1
   simp only[Fc.num.injEq]at h1
   obtain⟨rfl,h1⟩:=h1
   obtain⟨q1,q2,q3⟩:=x12u hr
   unfold Datum.toInt
   rw[xzg,xxb (by omega),h1,Nat.mul_div_cancel _ (Nat.two_pow_pos _)]
   show some (signed s' k 0)=_
   unfold signed sg
   rw[Nat.shiftLeft_zero]
 simp only[ht]
 have e1:IntKind.i64.min=-9223372036854775808:=rfl
 have e2:IntKind.i64.max=9223372036854775807:=rfl
 have:=h.bd
 rw[h3]at this
 rw[e1,e2,if_pos (by omega),h3]
 exact OkR.pure rfl
theorem w_Parts{x y:Nat}(hx:RtP x)(hy:RtP y)(d:Nat)(m:Mem):xnu (xnt (d+1)) x4j [C32 x y] m=some (.tup [I (val x),I (val y)],m):=by
 refine xo0 (by simp) ?_ m
 rw[xkl]
 unfold xeq xce
 simp[mem0,xvx,xxi,s_f32i hx,s_f32i hy]
 exact RetF.tup rfl rfl
theorem w_rAt(d:Nat)(ha:Sl pxE a D)(hR:RtI L S D)(l s:Int)(m:Mem):xnu (xnt (d+3)) x1o [.agg [I L,I S,a],I l,I s] m=some (.tup [I (atM L S D l s).1,I (atM L S D l s).2],m):=by
 have hl:=wi_t hR.l
 have hs:=wi_t hR.s
 have hlies:=λd m=>w_lies d ha.still1 ha.one L S l s 1 1 (xnx (by omega) (by omega)) (xnx (by omega) (by omega)) m
 refine xo0 (by simp[ha.still1]) ?_ m
 rw[xk7]
 unfold xec xbw atM
 cases c:(wi l 0 (L-1)&&wi s 0 (S-1))
 .simp[mem0,ha.one,hlies,c]
  exact RetF.tup rfl rfl
 have c':=c
 rw[x195]at c'
 obtain⟨c1,c2⟩:=c'
 obtain⟨b1,b2,b3,b4⟩:=at_in hR c1 c2
 have hk:(l*S+s).toNat<D.length:=by omega
 have ix:=ha.ixI pxL b1 b2
 rw[xp2 hk,x19b]at ix
 have hrt:=hR.d _ (x19j hk)
 have b5:=xw0 hR.l hR.s
 have b6:=hR.n
 simp(disch:=omega) [mem0,ha.one,hlies,c,xnx,ix,pxE,w_Parts hrt.1 hrt.2]
 exact RetF.tup rfl rfl
open Go.Proofs
theorem x15x(d:Nat)(k:Int)(m:Mem):xnu (xnt (d+2)) x2c [I k] m=some (B (wi k 0 2),m):=by
 refine xo0 rfl ?_ m
 rw[xiw]
 unfold xd2 x8f
 simp[mem0,xqr]
 exact RetF.st rfl rfl
theorem x15y(d:Nat)(k:Int)(m:Mem):xnu (xnt (d+2)) x2i [I k] m=some (B (wi k 0 2),m):=by
 refine xo0 rfl ?_ m
 rw[xj3]
 unfold xd9 x8z
 simp[mem0,xpo]
 exact RetF.st rfl rfl
theorem s_zmul{a b:AV}{p q u v:Int}{t:TypeId}{X Y:Operand}(ha:Is (Fzi p q) a)(hb:Is (Fzi u v) b)(h1:bd p 4000000000000000)(h2:bd q 4000000000000000)(h3:bd u 4000000000000000)(h4:bd v 4000000000000000)(k1:bd (p*u) 2000000000000000)(k2:bd (q*v) 2000000000000000)(k3:bd (p*v) 2000000000000000)(k4:bd (q*u) 2000000000000000):∃r,sBin Tryz.prog .mul t X Y a b=some r/\Is (Fzi (p*u-q*v) (p*v+q*u)) r:=by
 refine xx9 ha hb ?_
 rintro _ _ ⟨x,y,rfl,hx,hy⟩ ⟨z,w,rfl,hz,hw⟩
 unfold bd at *
 obtain⟨e,f,h,he,hf⟩:=zi_mul hx hy hz hw (by omega) (by omega) (by omega) (by omega) (by omega) (by omega) (by omega) (by omega)
 have hb:binS .mul t X Y [.complex .f64 x y,.complex .f64 z w]=Op.complexOp .mul .f64 x y z w:=rfl
 rw[hb,h]
 exact OkR.pure ⟨xxe ⟨e,f,rfl,he,hf⟩,e,f,rfl,he,hf⟩
theorem s_zadd{a b:AV}{p q u v:Int}{t:TypeId}{X Y:Operand}(ha:Is (Fzi p q) a)(hb:Is (Fzi u v) b)(k1:bd (p+u) 4000000000000000)(k2:bd (q+v) 4000000000000000):∃r,sBin Tryz.prog .add t X Y a b=some r/\Is (Fzi (p+u) (q+v)) r:=by
 refine xx9 ha hb ?_
 rintro _ _ ⟨x,y,rfl,hx,hy⟩ ⟨z,w,rfl,hz,hw⟩
 unfold bd at *
 obtain⟨e,f,h,he,hf⟩:=zi_add hx hy hz hw (by omega) (by omega)
 have hb:binS .add t X Y [.complex .f64 x y,.complex .f64 z w]=Op.complexOp .add .f64 x y z w:=rfl
 rw[hb,h]
 exact OkR.pure ⟨xxe ⟨e,f,rfl,he,hf⟩,e,f,rfl,he,hf⟩
theorem xzt{a:AV}{p q:Int}{t:TypeId}{ts:Array TypeId}(ha:Is (Fzi p q) a):∃r,xoi Tryz.prog .real ts t [a]=some r/\Is (Fi p) r:=by
 refine xxa ha ?_
 rintro _ ⟨u,v,rfl,hu,hv⟩
 exact OkR.pure ⟨xxd ⟨u,rfl,hu⟩,u,rfl,hu⟩
theorem xzu{a:AV}{p q:Int}{t:TypeId}{ts:Array TypeId}(ha:Is (Fzi p q) a):∃r,xoi Tryz.prog .imag ts t [a]=some r/\Is (Fi q) r:=by
 refine xxa ha ?_
 rintro _ ⟨u,v,rfl,hu,hv⟩
 exact OkR.pure ⟨xxd ⟨v,rfl,hv⟩,v,rfl,hv⟩
theorem s_fi{a:AV}{n:Int}(ha:Is (Fi n) a)(hn:bd n 9000000000000000000):sCvt Tryz.prog x8 xo4 a=some (I n):=by
 refine sCvt_1 (A:=Fi n) ha rfl (λu hu=>by obtain⟨w,rfl,-⟩:=hu;rfl) (λu hu=>?_)
 obtain⟨w,rfl,hw⟩:=hu
 have hn':nfS Tryz.prog (convert x8 xo4 (.float .f64 w))=nfS Tryz.prog (Conv.floatToInt .f64 w .i64):=by kernel_rfl
 rw[<-xqd,hn',xqd]
 unfold Conv.floatToInt
 simp only[I_toInt hw]
 have e1:IntKind.i64.min=-9223372036854775808:=rfl
 have e2:IntKind.i64.max=9223372036854775807:=rfl
 unfold bd at hn
 rw[e1,e2,if_pos (by omega)]
 exact OkR.pure rfl
theorem s_if64(n:Int):sCvt Tryz.prog xo4 x8 (I n)=some (.sc (.float .f64 (FloatKind.f64.nearest n))):=by
 have hn:xo1 Tryz.prog (convert xo4 x8 (.int .i64 n))=some (.float .f64 (FloatKind.f64.nearest n)):=by kernel_rfl
 unfold sCvt cvt0
 simp only[show xo9 (I n)=some (.int .i64 n)from rfl,show xr2 Tryz.prog xo4 x8 (.int .i64 n)=none from rfl,hn]
 rfl
theorem s_if32(n:Int):sCvt Tryz.prog xo4 x9 (I n)=some (.sc (.float .f32 (FloatKind.f32.nearest n))):=by
 have hn:xo1 Tryz.prog (convert xo4 x9 (.int .i64 n))=some (.float .f32 (FloatKind.f32.nearest n)):=by kernel_rfl
 unfold sCvt cvt0
 simp only[show xo9 (I n)=some (.int .i64 n)from rfl,show xr2 Tryz.prog xo4 x9 (.int .i64 n)=none from rfl,hn]
 rfl
theorem cplx64(x y:Nat):xoi Tryz.prog .complex #[x8,x8] xa [.sc (.float .f64 x),.sc (.float .f64 y)]=some (.sc (.complex .f64 x y)):=by
 have h:xo1 Tryz.prog (biS .complex #[x8,x8] xa [.float .f64 x,.float .f64 y])=some (.complex .f64 x y):=by kernel_rfl
 unfold xoi bi0
 simp only[show xop [AV.sc (.float .f64 x),AV.sc (.float .f64 y)]=some [.float .f64 x,.float .f64 y]from rfl,h]
 rfl
def kwM(k p:Int):List Int:=if k=0 then[1-p / 8,p / 8]else if k=1 then[16-p,p]else[32*p*p-p*p*p-256*p,3*p*p*p-80*p*p+8192,64*p*p-3*p*p*p+256*p,p*p*p-16*p*p]
def kA(k:Int):Int:=if k=2 then 1 else 0
def kS(k:Int):Int:=if k=0 then 1 else if k=1 then 16 else 8192
theorem xzv{Q:Int->Int->Prop}{k p:Int}(hk:wi k 0 2=true)(hp:0<=p/\p<=15)(h:∀k p:Int,(k=0\/k=1\/k=2)->(p=0\/p=1\/p=2\/p=3\/p=4\/p=5\/p=6\/p=7\/p=8\/p=9\/p=10\/p=11\/p=12\/p=13\/p=14\/p=15)->Q k p):Q k p:=by
 have:=wi_t hk
 exact h k p (by omega) (by omega)
theorem xuo{k p:Int}(hk:wi k 0 2=true)(hp:0<=p/\p<=15):(∀w∈kwM k p,bd w 8192)/\(kwM k p).length<=4:=by
 refine xzv (Q:=λk p=>(∀w∈kwM k p,bd w 8192)/\(kwM k p).length<=4) hk hp ?_
 clear hk hp k p
 intro k p hk hp
 unfold bd
 rcases hk with rfl|rfl|rfl<;>rcases hp with rfl|rfl|rfl|rfl|rfl|rfl|rfl|rfl|rfl|rfl|rfl|rfl|rfl|rfl|rfl|rfl<;>decide
theorem x15z{k p:Int}(hk:wi k 0 2=true)(hp:0<=p/\p<=15):∀d:Nat,((xnt (d+1) [] x6w [I k,I p] mem0).bind λq=>Go.Ix.frz q.2.get deep q.1)=some (.agg [.slit ((kwM k p).flatMap intE) (kwM k p).length true,I (kA k),I (kS k)]):=by
 refine xzv (Q:=λk p=>∀d:Nat,((xnt (d+1) [] x6w [I k,I p] mem0).bind λq=>Go.Ix.frz q.2.get deep q.1)=some (.agg [.slit ((kwM k p).flatMap intE) (kwM k p).length true,I (kA k),I (kS k)])) hk hp ?_
 clear hk hp k p
 intro k p hk hp d
 rcases hk with rfl|rfl|rfl<;>rcases hp with rfl|rfl|rfl|rfl|rfl|rfl|rfl|rfl|rfl|rfl|rfl|rfl|rfl|rfl|rfl|rfl<;>kernel_rfl
theorem x13n{k p:Int}(hk:wi k 0 2=true)(hp:0<=p/\p<=15)(d:Nat)(m:Mem):xnu (xnt (d+1)) x6w [I k,I p] m=some (.agg [.slit ((kwM k p).flatMap intE) (kwM k p).length true,I (kA k),I (kS k)],m):=
 xo0 rfl (xpw (x15z hk hp d)) m
theorem x160{k p:Int}(hk:wi k 0 2=true)(hp:0<=p/\p<=15):∀d:Nat,((xnt (d+1) [] x79 [I k,I p] mem0).bind λq=>Go.Ix.frz q.2.get deep q.1)=some (.tup [.slit ((kwM k p).flatMap intE) (kwM k p).length true,I (kS k)]):=by
 refine xzv (Q:=λk p=>∀d:Nat,((xnt (d+1) [] x79 [I k,I p] mem0).bind λq=>Go.Ix.frz q.2.get deep q.1)=some (.tup [.slit ((kwM k p).flatMap intE) (kwM k p).length true,I (kS k)])) hk hp ?_
 clear hk hp k p
 intro k p hk hp d
 rcases hk with rfl|rfl|rfl<;>rcases hp with rfl|rfl|rfl|rfl|rfl|rfl|rfl|rfl|rfl|rfl|rfl|rfl|rfl|rfl|rfl|rfl<;>kernel_rfl
theorem x13o{k p:Int}(hk:wi k 0 2=true)(hp:0<=p/\p<=15)(d:Nat)(m:Mem):xnu (xnt (d+1)) x79 [I k,I p] m=some (.tup [.slit ((kwM k p).flatMap intE) (kwM k p).length true,I (kS k)],m):=
 xo0 rfl (xpw (x160 hk hp d)) m
def rowS(v:Int)(f:Int->Int):Int->List Int->Int
 |_,[]=>0
 |s,w::r=>v*w*f s+rowS v f (s+1) r
def xq6(f:Int->Int->Int)(s:Int)(W:List Int):Int->List Int->Int
 |_,[]=>0
 |l,v::V=>rowS v (f l) s W+xq6 f s W (l+1) V
theorem vw_bd{v w x:Int}(hv:bd v 8192)(hw:bd w 8192)(hx:bd x 2047):bd (v*w) 67108864/\bd (v*w*x) 137371844608:=by
 have h1:=hv.mul hw
 have h2:=h1.mul hx
 exact⟨h1.mono (by decide),h2.mono (by decide)⟩
theorem xup{v:Int}{f:Int->Int}(hv:bd v 8192)(hf:∀s,bd (f s) 2047):∀(W:List Int) (s:Int),(∀w∈W,bd w 8192)->bd (rowS v f s W) (W.length*137371844608)
 |[],s,_=>by unfold rowS bd;simp
 |w::r,s,h=>by
  have h1:=(vw_bd hv (h w (by simp)) (hf s)).2
  have h2:=xup hv hf r (s+1) λx hx=>h x (by simp[hx])
  unfold rowS
  unfold bd at *
  simp only[x19e,x1bi]
  generalize v*w*f s=A at *
  generalize rowS v f (s+1) r=B at *
  omega
theorem xzw{f:Int->Int->Int}{s:Int}{W:List Int}(hf:∀l s,bd (f l s) 2047)(hW:∀w∈W,bd w 8192)(h4:W.length<=4):∀(V:List Int) (l:Int),(∀v∈V,bd v 8192)->bd (xq6 f s W l V) (V.length*549487378432)
 |[],l,_=>by unfold xq6 bd;simp
 |v::V,l,h=>by
  have h1:=xup (h v (by simp)) (hf l) W s hW
  have h2:=xzw (s:=s) hf hW h4 V (l+1) λx hx=>h x (by simp[hx])
  unfold xq6
  unfold bd at *
  simp only[x19e,x1bi]
  generalize rowS v (f l) s W=A at *
  generalize xq6 f s W (l+1) V=B at *
  omega
theorem xsg{L S:Int}{D:List Px}(hR:RtI L S D)(l s:Int):bd (atM L S D l s).1 2047/\bd (atM L S D l s).2 2047:=by
 unfold atM
 cases c:(wi l 0 (L-1)&&wi s 0 (S-1))
 .unfold bd;simp
 rw[x195]at c
 obtain⟨b1,b2,-,-⟩:=at_in hR c.1 c.2
 have hk:(l*S+s).toNat<D.length:=by omega
 have hrt:=hR.d _ (x19j hk)
 rw[xqc,x1a7,x19g hk]
 exact⟨hrt.1.bd,hrt.2.bd⟩
theorem xrv:Tryz.prog.underlying xg=some (.slice xo4):=by kernel_rfl
abbrev slI(l:List Int):AV:=.slit (l.flatMap intE) l.length true
theorem xqj(l:List Int):Sl intE (slI l) l:=Sl.lit l true
variable{a:AV}{D:List Px}{L S:Int}
section
variable(d:Nat)(hs:FHs)(u:Nat)(ha:Sl pxE a D)(hR:RtI L S D)
include ha hR
theorem l_smp1(rec0:xob)(V W:List Int)(hW:∀w∈W,bd w 8192)(h4:W.length<=4)(ln sm ah bh ks v:Int)(i:Nat)(hv:bd v 8192)(hln:bd ln 1000000000000000000)(hsm:bd sm 1000000000000000000)(hah:0<=ah/\ah<=1)(hbh:0<=bh/\bh<=1)(hi:i<=4){t38 t39 xV:AV}(m:Mem)(g3:m.get (u,0,3)=some (.row [I L,I S,a] 0 false))(g9:m.get (u,25,9)=some (.row [xV,I ah,I ks] 0 false))(g10:m.get (u,26,10)=some (.row [slI W,I bh,I ks] 0 false)) :
 ∀(suf:List Int) (k j:Nat) (r:AV) (A B:Int) (fc:Nat),W.drop k=suf->suf.length<j->Is (Fzi A B) r->bd A (3000000000000000-suf.length*137371844608)->bd B (3000000000000000-suf.length*137371844608) ->
 ∃r' fc',x5c (xnt (d+2)) hs u rec0 j (.ptr (u,0,3) 0 0) (I ln) (I sm) (.ptr (u,25,9) 0 0) (.ptr (u,26,10) 0 0) r (I i) (I v) t38 t39 (I i) (slI W) (I W.length) (I k) m fc
  = x9u (xnt (d+2)) hs u rec0 (.ptr (u,0,3) 0 0) (I ln) (I sm) (.ptr (u,25,9) 0 0) (.ptr (u,26,10) 0 0) r' t38 t39 (I i) m fc' /\
  Is (Fzi (A+rowS v (λs=>(atM L S D (ln+i-ah) s).1) (sm+k-bh) suf) (B+rowS v (λs=>(atM L S D (ln+i-ah) s).2) (sm+k-bh) suf)) r':=by
 intro suf
 induction suf with
 |nil=>
  intro k j r A B fc hd hj hr hA hB
  obtain⟨j,rfl⟩:∃i,j=i+1:=⟨j-1,by simp at hj;omega⟩
  have hk:¬((k:Int)<(W.length:Int)):=by have:=x19k.mp hd;omega
  refine⟨r,fc+1,?_,by simpa[rowS]using hr⟩
  simp only[x5c]
  unfold x9v
  simp[hk]
 |cons w suf ih=>
  intro k j r A B fc hd hj hr hA hB
  obtain⟨j,rfl⟩:∃i,j=i+1:=⟨j-1,by simp at hj;omega⟩
  obtain⟨hk,he,hd⟩:=xpe hd
  have hk':(k:Int)<(W.length:Int):=by omega
  have ix:=(xqj W).ix (z:=1) (λ_=>rfl) hk
  rw[xp2 hk,x19b,he]at ix
  have hw:bd w 8192:=hW w (he▸x19j hk)
  have hat:=xsg hR (ln+i-ah) (sm+k-bh)
  obtain⟨z,ez,hz⟩:=w_at d ha hR (ln+i-ah) (sm+k-bh) m
  have hv1:=vw_bd hv hw hat.1
  have hv2:=vw_bd hv hw hat.2
  have hvw:v*w<=67108864/\-67108864<=v*w:=⟨hv1.1.2,hv1.1.1⟩
  have hc:Is (Fzi (v*w) 0) (.sc (.complex .f64 (FloatKind.f64.nearest (v*w)) 0)):=Is.sc ⟨_,_,rfl,I_int (by omega),I_0⟩
  generalize hP:(atM L S D (ln+i-ah) (sm+k-bh)).1=P at *
  generalize hQ:(atM L S D (ln+i-ah) (sm+k-bh)).2=Q at *
  obtain⟨y,ey,hy⟩:=s_zmul (t:=xa) (X:=.tmp 58) (Y:=.tmp 72) hc hz (by unfold bd;omega) (by unfold bd;omega) (hat.1.mono (by decide)) (hat.2.mono (by decide)) (hv1.2.mono (by decide)) (by rw[Int.zero_mul];unfold bd;omega) (hv2.2.mono (by decide)) (by rw[Int.zero_mul];unfold bd;omega)
  have hy:Is (Fzi (v*w*P) (v*w*Q)) y:=by simpa using hy
  have q1:=hv1.2
  have q2:=hv2.2
  unfold bd at hln hsm q1 q2 hA hB
  simp only[x19e,x1bi]at hA hB
  obtain⟨x,ex,hx⟩:=s_zadd (t:=xa) (X:=.tmp 53) (Y:=.tmp 73) hr hy (by unfold bd;omega) (by unfold bd;omega)
  have hkl:k<=4:=by omega
  obtain⟨r',fc',e,hr'⟩:=ih (k+1) j x (A+v*w*P) (B+v*w*Q) (fc+31) hd (by simp at hj;omega) hx (by unfold bd;omega) (by unfold bd;omega)
  refine⟨r',fc',?_,?_⟩
  .rw[<-e]
   simp only[x5c]
   conv=>lhs;unfold x9v
   simp(disch:=omega) [hk',ix,intE,xnx,s_if64,cplx64,g3,g9,g10,ez,ey,ex]
  .unfold rowS
   rw[hP,hQ]
   have e1:sm+((k+1:Nat):Int)-bh=sm+k-bh+1:=by omega
   rw[e1]at hr'
   rw[<-x1bb,<-x1bb]
   exact hr'
theorem l_smp0(V W:List Int)(hV:∀w∈V,bd w 8192)(hV4:V.length<=4)(hW:∀w∈W,bd w 8192)(h4:W.length<=4)(ln sm ah bh ks:Int)(hln:bd ln 1000000000000000000)(hsm:bd sm 1000000000000000000)(hah:0<=ah/\ah<=1)(hbh:0<=bh/\bh<=1){xV:AV}(m:Mem)(g3:m.get (u,0,3)=some (.row [I L,I S,a] 0 false))(g9:m.get (u,25,9)=some (.row [xV,I ah,I ks] 0 false))(g10:m.get (u,26,10)=some (.row [slI W,I bh,I ks] 0 false)) :
 ∀(suf:List Int) (i j:Nat) (r:AV) (A B:Int) (fc:Nat),V.drop i=suf->suf.length<j->Is (Fzi A B) r->bd A (2000000000000000-suf.length*549487378432)->bd B (2000000000000000-suf.length*549487378432) ->
 ∃r' fc',x3b (xnt (d+2)) hs u j (.ptr (u,0,3) 0 0) (I ln) (I sm) (.ptr (u,25,9) 0 0) (.ptr (u,26,10) 0 0) r (slI V) (I V.length) (I i) m fc
  = x9t (xnt (d+2)) hs u (.ptr (u,25,9) 0 0) (.ptr (u,26,10) 0 0) r' m fc' /\
  Is (Fzi (A+xq6 (λl s=>(atM L S D l s).1) (sm-bh) W (ln+i-ah) suf) (B+xq6 (λl s=>(atM L S D l s).2) (sm-bh) W (ln+i-ah) suf)) r':=by
 intro suf
 induction suf with
 |nil=>
  intro i j r A B fc hd hj hr hA hB
  obtain⟨j,rfl⟩:∃i,j=i+1:=⟨j-1,by simp at hj;omega⟩
  have hk:¬((i:Int)<(V.length:Int)):=by have:=x19k.mp hd;omega
  refine⟨r,fc+1,?_,by simpa[xq6]using hr⟩
  simp only[x3b]
  unfold x9w
  simp[hk]
 |cons v suf ih=>
  intro i j r A B fc hd hj hr hA hB
  obtain⟨j,rfl⟩:∃i,j=i+1:=⟨j-1,by simp at hj;omega⟩
  obtain⟨hk,he,hd⟩:=xpe hd
  have hk':(i:Int)<(V.length:Int):=by omega
  have ix:=(xqj V).ix (z:=1) (λ_=>rfl) hk
  rw[xp2 hk,x19b,he]at ix
  have hv:bd v 8192:=hV v (he▸x19j hk)
  have b1:=xup (f:=λs=>(atM L S D (ln+i-ah) s).1) hv (λs=>(xsg hR _ s).1) W (sm-bh) hW
  have b2:=xup (f:=λs=>(atM L S D (ln+i-ah) s).2) hv (λs=>(xsg hR _ s).2) W (sm-bh) hW
  unfold bd at hA hB b1 b2
  simp only[x19e,x1bi]at hA hB
  obtain⟨r1,fc1,e1,hr1⟩:=l_smp1 d hs u ha hR (x3b (xnt (d+2)) hs u j) V W hW h4 ln sm ah bh ks v i hv hln hsm hah hbh (by omega) (t38:=slI V) (t39:=I V.length) m g3 g9 g10 W 0 NN r A B (fc+1+9) rfl (by rw[xo8];omega) hr (by unfold bd;omega) (by unfold bd;omega)
  rw[show sm+((0:Nat):Int)-bh=sm-bh by omega]at hr1
  obtain⟨r',fc',e,hr'⟩:=ih (i+1) j r1 _ _ (fc1+2) hd (by simp at hj;omega) hr1 (by unfold bd;omega) (by unfold bd;omega)
  refine⟨r',fc',?_,?_⟩
  .rw[<-e]
   simp only[x3b]
   conv=>lhs;unfold x9w xgt
   simp only[xou,hk',x19d,xnz,xot,ix]
   simp[intE,g10,(xqj W).len xrv]
   rw[show(0:Int)=((0:Nat):Int)from rfl,e1]
   unfold x9u
   simp(disch:=omega) [xnx]
  .unfold xq6
   have e1:ln+((i+1:Nat):Int)-ah=ln+i-ah+1:=by omega
   rw[e1]at hr'
   rw[<-x1bb,<-x1bb]
   exact hr'
end
def rnd(n b:Int):Int:=
 if(if(2*n+b) / (2*b)<2047 then(2*n+b) / (2*b)else 2047) > -2047 then(if(2*n+b) / (2*b)<2047 then(2*n+b) / (2*b)else 2047)else -2047
theorem rnd_bd(n b:Int):bd (rnd n b) 2047:=by
 unfold rnd bd
 generalize (2*n+b) / (2*b)=q
 split<;>split<;>omega
def smpX(L S:Int)(D:List Px)(k y x:Int):Int:=xq6 (λl s=>(atM L S D l s).1) (x / 16-kA k) (kwM k (x % 16)) (y / 16-kA k) (kwM k (y % 16))
def smpY(L S:Int)(D:List Px)(k y x:Int):Int:=xq6 (λl s=>(atM L S D l s).2) (x / 16-kA k) (kwM k (x % 16)) (y / 16-kA k) (kwM k (y % 16))
def smpM(L S:Int)(D:List Px)(k y x:Int):Int×Int:=(rnd (smpX L S D k y x) (kS k*kS k),rnd (smpY L S D k y x) (kS k*kS k))
def f32w(n:Int):Nat:=FloatKind.f32.nearest n
def spx(p:Int×Int):Px:=(f32w p.1,f32w p.2)
abbrev sPX(p:Int×Int):AV:=C32 (f32w p.1) (f32w p.2)
theorem kS_bd{k:Int}(hk:wi k 0 2=true):1<=kS k/\kS k<=8192/\1<=kS k*kS k/\kS k*kS k<=67108864/\0<=kA k/\kA k<=1:=by
 have:=wi_t hk
 have:k=0\/k=1\/k=2:=by omega
 rcases this with rfl|rfl|rfl<;>decide
theorem w_cut{r:AV}{n b:Int}(hr:Is (Fi n) r)(hn:bd n 2000000000000000)(h1:1<=b)(h2:b<=67108864)(d:Nat)(m:Mem):xnu (xnt (d+3)) x2s [r,I b] m=some (.sc (.float .f32 (f32w (rnd n b))),m):=by
 refine xo0 (by simp[hr.oneFi.st]) ?_ m
 have e:=xzj d (x:=n) (y:=b) (by omega) (by omega) (hn.mono (by decide))
 rw[xjy]
 unfold xe4 xbd
 simp[mem0,s_fi hr (hn.mono (by decide)),e,s_if32]
 exact RetF.st rfl rfl
theorem z_kern:xgv=[nilS,I 0,I 0]:=by kernel_rfl
variable{a:AV}{D:List Px}{L S:Int}
theorem smp_bd(hR:RtI L S D){k y x:Int}(hk:wi k 0 2=true):bd (smpX L S D k y x) 2000000000000000/\bd (smpY L S D k y x) 2000000000000000:=by
 have hx:0<=x % 16/\x % 16<=15:=by omega
 have hy:0<=y % 16/\y % 16<=15:=by omega
 obtain⟨k1,k2⟩:=xuo hk hx
 obtain⟨k3,k4⟩:=xuo hk hy
 have b1:=xzw (f:=λl s=>(atM L S D l s).1) (s:=x / 16-kA k) (λl s=>(xsg hR l s).1) k1 k2 (kwM k (y % 16)) (y / 16-kA k) k3
 have b2:=xzw (f:=λl s=>(atM L S D l s).2) (s:=x / 16-kA k) (λl s=>(xsg hR l s).2) k1 k2 (kwM k (y % 16)) (y / 16-kA k) k3
 unfold smpX smpY
 unfold bd at *
 constructor<;>omega
theorem w_sample(d:Nat)(ha:Sl pxE a D)(hR:RtI L S D){k y x:Int}(hk:wi k 0 2=true)(hy:bd y 4000000000000000000)(hx:bd x 4000000000000000000)(m:Mem) :
 xnu (xnt (d+4)) x3u [.agg [I L,I S,a],I k,.agg [I y,I x]] m=some (sPX (smpM L S D k y x),m):=by
 refine xo0 (by simp[ha.still1]) ?_ m
 have hx2:0<=x % 16/\x % 16<=15:=by omega
 have hy2:0<=y % 16/\y % 16<=15:=by omega
 obtain⟨k1,k2⟩:=xuo hk hx2
 obtain⟨k3,k4⟩:=xuo hk hy2
 obtain⟨s1,s2,s3,s4,s5,s6⟩:=kS_bd hk
 have f1:=xzi (d+2) (x:=y) (y:=16) (by decide) (hy.mono (by decide))
 have f2:=xzi (d+2) (x:=x) (y:=16) (by decide) (hx.mono (by decide))
 have q1:y-y / 16*16=y % 16:=by omega
 have q2:x-x / 16*16=x % 16:=by omega
 unfold bd at hx hy
 rw[xjc]
 unfold xdi x9x
 have kv:=λm=>x13n hk hy2 (d+2) m
 have kw:=λm=>x13n hk hx2 (d+2) m
 simp(disch:=omega) [mem0,ha.one,sIxA,asI,f1,f2,q1,q2,xnx,cAp,tR,mkM,show Nat.blt 0 1=true from rfl,kv,kw,z_kern,xoa,disj]
 obtain⟨M,hM⟩:∃M:Mem,((((((⟨[],1⟩:Mem).new (0,0,3) (Ob.row [I L,I S,a] 0 false)).new (0,1,5) (Ob.row [I y,I x] 0 false)).new (0,25,9) (Ob.row [nilS,I 0,I 0] 0 false)).new (0,26,10) (Ob.row [nilS,I 0,I 0] 0 false)).set (0,25,9) (Ob.row [slI (kwM k (y % 16)),I (kA k),I (kS k)] 0 false)).set (0,26,10) (Ob.row [slI (kwM k (x % 16)),I (kA k),I (kS k)] 0 false)=M:=⟨_,rfl⟩
 rw[hM]
 have g3:M.get (0,0,3)=some (.row [I L,I S,a] 0 false):=by rw[<-hM];simp
 have g9:M.get (0,25,9)=some (.row [slI (kwM k (y % 16)),I (kA k),I (kS k)] 0 false):=by rw[<-hM];simp
 have g10:M.get (0,26,10)=some (.row [slI (kwM k (x % 16)),I (kA k),I (kS k)] 0 false):=by rw[<-hM];simp
 obtain⟨b1,b2⟩:=smp_bd (y:=y) (x:=x) hR hk
 obtain⟨r,fc',e,hr⟩:=l_smp0 (d+1) [] 0 ha hR (kwM k (y % 16)) (kwM k (x % 16)) k3 k4 k1 k2 (y / 16) (x / 16) (kA k) (kA k) (kS k) (by unfold bd;omega) (by unfold bd;omega) ⟨s5,s6⟩ ⟨s5,s6⟩ M g3 g9 g10
  (kwM k (y % 16)) 0 NN (.sc (.complex .f64 0 0)) 0 0 34 rfl (by rw[xo8];omega) (Is.sc ⟨0,0,rfl,I_0,I_0⟩) (by unfold bd;omega) (by unfold bd;omega)
 rw[x1ce,x1ce,show y / 16+((0:Nat):Int)-kA k=y / 16-kA k by omega]at hr
 have hr:Is (Fzi (smpX L S D k y x) (smpY L S D k y x)) r:=hr
 unfold xgu
 simp[g9,(xqj (kwM k (y % 16))).len xrv]
 rw[show(0:Int)=((0:Nat):Int)from rfl,e]
 obtain⟨rr,er,hrr⟩:=xzt (t:=x8) (ts:=#[xa]) hr
 obtain⟨ri,ei,hri⟩:=xzu (t:=x8) (ts:=#[xa]) hr
 have c1:=λm=>w_cut hrr b1 s3 s4 d m
 have c2:=λm=>w_cut hri b2 s3 s4 d m
 unfold x9t
 simp(disch:=omega) [g9,g10,xnx,er,ei,c1,c2,cplx32]
 exact RetF.st rfl rfl
section
variable(d:Nat)(hs:FHs)(u:Nat)(ha:Sl pxE a D)(hR:RtI L S D)
include ha hR
theorem l_rsm1(rec0:xp6)(V W:List Int)(hW:∀w∈W,bd w 8192)(h4:W.length<=4)(ln sm v:Int)(i:Nat)(hi:i<V.length)(hvi:V[i]=v)(hv:bd v 8192)(hln:bd ln 1000000000000000000)(hsm:bd sm 1000000000000000000)(hi4:V.length<=4){t11 t13:AV}(m:Mem)(g3:m.get (u,0,3)=some (.row [I L,I S,a] 0 false)) :
 ∀(suf:List Int) (k j:Nat) (A B:Int) (fc:Nat),W.drop k=suf->suf.length<j->bd A (3000000000000000-suf.length*137371844608)->bd B (3000000000000000-suf.length*137371844608) ->
 ∃fc',x5l (xnt (d+3)) hs u rec0 j (.ptr (u,0,3) 0 0) (I ln) (I sm) (slI V) t11 (slI W) t13 (I A) (I B) (I i) (I k) m fc
  = xaz (xnt (d+3)) hs u rec0 (.ptr (u,0,3) 0 0) (I ln) (I sm) (slI V) t11 (slI W) t13 (I (A+rowS v (λs=>(atM L S D (ln+i) s).1) (sm+k) suf)) (I (B+rowS v (λs=>(atM L S D (ln+i) s).2) (sm+k) suf)) (I i) m fc':=by
 intro suf
 have ixV:=(xqj V).ix (z:=1) (λ_=>rfl) hi
 rw[xp2 hi,x19b,hvi]at ixV
 induction suf with
 |nil=>
  intro k j A B fc hd hj hA hB
  obtain⟨j,rfl⟩:∃i,j=i+1:=⟨j-1,by simp at hj;omega⟩
  have hk:¬((k:Int)<(W.length:Int)):=by have:=x19k.mp hd;omega
  refine⟨fc+4,?_⟩
  simp only[x5l]
  conv=>lhs;unfold xb2
  rw[(xqj W).len xrv]
  simp[hk,rowS]
 |cons w suf ih=>
  intro k j A B fc hd hj hA hB
  obtain⟨j,rfl⟩:∃i,j=i+1:=⟨j-1,by simp at hj;omega⟩
  obtain⟨hk,he,hd⟩:=xpe hd
  have hk':(k:Int)<(W.length:Int):=by omega
  have ix:=(xqj W).ix (z:=1) (λ_=>rfl) hk
  rw[xp2 hk,x19b,he]at ix
  have hw:bd w 8192:=hW w (he▸x19j hk)
  have hat:=xsg hR (ln+i) (sm+k)
  have ez:=λm=>w_rAt d ha hR (ln+i) (sm+k) m
  have hv1:=vw_bd hv hw hat.1
  have hv2:=vw_bd hv hw hat.2
  have hvw:v*w<=67108864/\-67108864<=v*w:=⟨hv1.1.2,hv1.1.1⟩
  generalize hP:(atM L S D (ln+i) (sm+k)).1=P at *
  generalize hQ:(atM L S D (ln+i) (sm+k)).2=Q at *
  have q1:=hv1.2
  have q2:=hv2.2
  unfold bd at hln hsm q1 q2 hA hB
  simp only[x19e,x1bi]at hA hB
  have hkl:k<=4:=by omega
  obtain⟨fc',e⟩:=ih (k+1) j (A+v*w*P) (B+v*w*Q) (fc+48) hd (by simp at hj;omega) (by unfold bd;omega) (by unfold bd;omega)
  refine⟨fc',?_⟩
  unfold rowS
  rw[hP,hQ]
  have e1:sm+((k+1:Nat):Int)=sm+k+1:=by omega
  rw[e1]at e
  rw[<-x1bb,<-x1bb,<-e]
  simp only[x5l]
  conv=>lhs;unfold xb2
  rw[(xqj W).len xrv]
  simp(disch:=omega) [hk',ix,ixV,intE,xnx,g3,ez]
  simp only[x1an,xnz]
  simp(disch:=omega) [xnx]
theorem l_rsm0(V W:List Int)(hV:∀w∈V,bd w 8192)(hV4:V.length<=4)(hW:∀w∈W,bd w 8192)(h4:W.length<=4)(ln sm:Int)(hln:bd ln 1000000000000000000)(hsm:bd sm 1000000000000000000){t11 t13:AV}(m:Mem)(g3:m.get (u,0,3)=some (.row [I L,I S,a] 0 false)) :
 ∀(suf:List Int) (i j:Nat) (A B:Int) (fc:Nat),V.drop i=suf->suf.length<j->bd A (2000000000000000-suf.length*549487378432)->bd B (2000000000000000-suf.length*549487378432) ->
 ∃fc',x3i (xnt (d+3)) hs u j (.ptr (u,0,3) 0 0) (I ln) (I sm) (slI V) t11 (slI W) t13 (I A) (I B) (I i) m fc
  = xay (xnt (d+3)) hs u t11 t13 (I (A+xq6 (λl s=>(atM L S D l s).1) sm W (ln+i) suf)) (I (B+xq6 (λl s=>(atM L S D l s).2) sm W (ln+i) suf)) m fc':=by
 intro suf
 induction suf with
 |nil=>
  intro i j A B fc hd hj hA hB
  obtain⟨j,rfl⟩:∃i,j=i+1:=⟨j-1,by simp at hj;omega⟩
  have hk:¬((i:Int)<(V.length:Int)):=by have:=x19k.mp hd;omega
  refine⟨fc+4,?_⟩
  simp only[x3i]
  conv=>lhs;unfold xb3
  rw[(xqj V).len xrv]
  simp[hk,xq6]
 |cons v suf ih=>
  intro i j A B fc hd hj hA hB
  obtain⟨j,rfl⟩:∃i,j=i+1:=⟨j-1,by simp at hj;omega⟩
  obtain⟨hk,he,hd⟩:=xpe hd
  have hk':(i:Int)<(V.length:Int):=by omega
  have hv:bd v 8192:=hV v (he▸x19j hk)
  have b1:=xup (f:=λs=>(atM L S D (ln+i) s).1) hv (λs=>(xsg hR _ s).1) W sm hW
  have b2:=xup (f:=λs=>(atM L S D (ln+i) s).2) hv (λs=>(xsg hR _ s).2) W sm hW
  unfold bd at hA hB b1 b2
  simp only[x19e,x1bi]at hA hB
  obtain⟨fc1,e1⟩:=l_rsm1 d hs u ha hR (x3i (xnt (d+3)) hs u j) V W hW h4 ln sm v i hk he hv hln hsm hV4 (t11:=t11) (t13:=t13) m g3 W 0 NN A B (fc+4+1) rfl (by rw[xo8];omega) (by unfold bd;omega) (by unfold bd;omega)
  rw[show sm+((0:Nat):Int)=sm by omega]at e1
  obtain⟨fc',e⟩:=ih (i+1) j _ _ (fc1+3) hd (by simp at hj;omega) (show bd (A+rowS v (λs=>(atM L S D (ln+i) s).1) sm W) _ by unfold bd;omega) (show bd (B+rowS v (λs=>(atM L S D (ln+i) s).2) sm W) _ by unfold bd;omega)
  refine⟨fc',?_⟩
  unfold xq6
  have e2:ln+((i+1:Nat):Int)=ln+i+1:=by omega
  rw[e2]at e
  rw[<-x1bb,<-x1bb,<-e]
  simp only[x3i]
  conv=>lhs;unfold xb3 xhf
  rw[(xqj V).len xrv]
  simp only[xou,hk',x19d,xnz,xot]
  rw[show(0:Int)=((0:Nat):Int)from rfl,e1]
  unfold xaz
  simp(disch:=omega) [xnx]
end
theorem w_round(d:Nat){n b:Int}(hn:bd n 2000000000000000)(h1:1<=b)(h2:b<=67108864)(m:Mem):xnu (xnt (d+2)) x2u [I n,I b] m=some (I (rnd n b),m):=by
 have f:=xsd d (x:=2*n+b) (y:=2*b) (by omega) (by unfold bd at *;omega)
 refine xo0 rfl ?_ m
 unfold bd at hn
 rw[xk8]
 unfold xed xbx
 simp(disch:=omega) [mem0,xnx,f]
 exact RetF.st rfl rfl
theorem x161(d:Nat)(ha:Sl pxE a D)(hR:RtI L S D){k y x:Int}(hk:wi k 0 2=true)(hy:bd y 4000000000000000000)(hx:bd x 4000000000000000000)(m:Mem) :
 xnu (xnt (d+4)) x43 [.agg [I L,I S,a],I k,.agg [I y,I x]] m=some (.tup [I (smpM L S D k y x).1,I (smpM L S D k y x).2],m):=by
 refine xo0 (by simp[ha.still1]) ?_ m
 have hx2:0<=x % 16/\x % 16<=15:=by omega
 have hy2:0<=y % 16/\y % 16<=15:=by omega
 obtain⟨k1,k2⟩:=xuo hk hx2
 obtain⟨k3,k4⟩:=xuo hk hy2
 obtain⟨s1,s2,s3,s4,s5,s6⟩:=kS_bd hk
 have f1:=xsd (d+2) (x:=y) (y:=16) (by decide) (hy.mono (by decide))
 have f2:=xsd (d+2) (x:=x) (y:=16) (by decide) (hx.mono (by decide))
 have mo:=λx m=>w_Mod (d+2) (x:=x) (y:=16) (by decide) (by decide) m
 unfold bd at hx hy
 have kv:=λm=>x13o hk hy2 (d+2) m
 have kw:=λm=>x13o hk hx2 (d+2) m
 obtain⟨b1,b2⟩:=smp_bd (y:=y) (x:=x) hR hk
 have c1:=λm=>w_round (d+1) b1 s3 s4 m
 have c2:=λm=>w_round (d+1) b2 s3 s4 m
 have hlen:(kwM k (y % 16)).length=4/\kA k=1\/¬(kwM k (y % 16)).length=4/\kA k=0:=by
  unfold kwM kA
  have:=wi_t hk
  have:k=0\/k=1\/k=2:=by omega
  rcases this with rfl|rfl|rfl
  .right;exact⟨by simp,rfl⟩
  .right;exact⟨by simp,rfl⟩
  .left;exact⟨by simp,rfl⟩
 rw[xjp]
 unfold xdv xb4
 simp(disch:=omega) [mem0,ha.one,sIxA,asI,f1,f2,mo,xnx,cAp,tR,mkM,show Nat.blt 0 1=true from rfl,kv,kw,xoa,disj]
 obtain⟨M,hM⟩:∃M:Mem,(((⟨[],1⟩:Mem).new (0,0,3) (Ob.row [I L,I S,a] 0 false)).new (0,1,5) (Ob.row [I y,I x] 0 false))=M:=⟨_,rfl⟩
 rw[hM]
 have g3:M.get (0,0,3)=some (.row [I L,I S,a] 0 false):=by rw[<-hM];simp
 unfold xhh
 simp only[x1an,xnz]
 rw[(xqj (kwM k (y % 16))).len xrv]
 have fin:∀fc,RetF (λr=>r=.tup [I (smpM L S D k y x).1,I (smpM L S D k y x).2]) (x78 (xnt (d+3)) [] 0 (.ptr (0,0,3) 0 0) (I (y / 16-kA k)) (I (x / 16-kA k)) (slI (kwM k (y % 16))) (I (kS k)) (slI (kwM k (x % 16))) (I (kS k)) M fc):=by
  intro fc
  obtain⟨fc',e⟩:=l_rsm0 d [] 0 ha hR (kwM k (y % 16)) (kwM k (x % 16)) k3 k4 k1 k2 (y / 16-kA k) (x / 16-kA k) (by unfold bd;omega) (by unfold bd;omega) (t11:=I (kS k)) (t13:=I (kS k)) M g3
   (kwM k (y % 16)) 0 NN 0 0 (fc+2+1) rfl (by rw[xo8];omega) (by unfold bd;omega) (by unfold bd;omega)
  unfold x78 xhg
  rw[show(I 0:AV)=I ((0:Nat):Int)from rfl]
  rw[show(I ((0:Nat):Int):AV)=I 0 from rfl]at e ⊢
  rw[e]
  unfold xay
  rw[x1ce,x1ce,show y / 16-kA k+((0:Nat):Int)=y / 16-kA k by omega]
  have c1':=c1 M
  have c2':=c2 M
  unfold smpX at c1'
  unfold smpY at c2'
  simp(disch:=omega) [xnx,c1',c2']
  exact RetF.tup rfl rfl
 rcases hlen with ⟨h1,h2⟩|⟨h1,h2⟩
 .rw[h2]at fin
  have h1':(((kwM k (y % 16)).length:Nat):Int)=4:=by omega
  simp(disch:=omega) [h1',xnx]
  exact fin _
 .rw[h2,Int.sub_zero,Int.sub_zero]at fin
  have h1':¬(((kwM k (y % 16)).length:Nat):Int)=4:=by omega
  simp[h1']
  exact fin _
end Go.Ix
