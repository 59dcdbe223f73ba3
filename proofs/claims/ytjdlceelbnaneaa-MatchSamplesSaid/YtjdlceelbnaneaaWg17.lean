import Derived.Test.YtjdlceelbnaneaaWg16
import Derived.Test.YtjdlceelbnaneaaWg5
import Derived.Test.YtjdlceelbnaneaaWg1
set_option linter.unusedSimpArgs false
set_option linter.unusedVariables false
set_option exponentiation.threshold 3000
namespace Go.Ix
open Go.Proofs Ieee
def val(x:Nat):Int:=match fcs x with
 | .num s V=>sg s (V / 2 ^ 1074)
 |_=>0
def RtP(x:Nat):Prop:=∃s k,fcs x=.num s (k*2 ^ 1074)/\k<=2047
theorem RtP.val{x:Nat}(h:RtP x):∃s k,fcs x=.num s (k*2 ^ 1074)/\k<=2047/\val x=sg s k:=by
 obtain⟨s,k,h1,h2⟩:=h
 refine⟨s,k,h1,h2,?_⟩
 unfold Go.Ix.val
 rw[h1]
 show sg s (k*2 ^ 1074 / 2 ^ 1074)=_
 rw[Nat.mul_div_cancel _ (Nat.two_pow_pos _)]
theorem RtP.bd{x:Nat}(h:RtP x):-2047<=Go.Ix.val x/\Go.Ix.val x<=2047:=by
 obtain⟨s,k,-,h2,h3⟩:=h.val
 rw[h3]
 cases s<;>simp[sg]<;>omega
theorem xi2{c:Fc}(h1:c.whole=true)(h2:c.big=false):∃s k,c=.num s (k*2 ^ 1074)/\k<=2047:=by
 obtain⟨s,V,rfl⟩:=xci h1
 have h1:(V % 2 ^ 1074 == 0)=true:=h1
 have h2:decide (2047*2 ^ 1074<V)=false:=h2
 have g1:V % 2 ^ 1074=0:=by simpa using h1
 have g2:¬2047*2 ^ 1074<V:=of_decide_eq_false h2
 have hd:=Nat.div_add_mod V (2 ^ 1074)
 have hp:0<2 ^ 1074:=Nat.two_pow_pos _
 refine⟨s,V / 2 ^ 1074,?_,?_⟩
 .congr 1
  rw[g1,Nat.mul_comm]at hd
  omega
 .exact Nat.le_of_lt_succ (Nat.div_lt_of_lt_mul (by
   generalize (2:Nat) ^ 1074=K at *
   have:K*(2047+1)=2047*K+K:=by omega
   omega))
theorem pxErr_0{p:Px}(h:xac p=0):RtP p.1/\RtP p.2:=by
 unfold xac pE at h
 cases c1:(fcs p.1).whole
 .rw[c1]at h;simp at h
 cases c2:(fcs p.2).whole
 .rw[c1,c2]at h;simp at h
 rw[c1,c2]at h
 cases b1:(fcs p.1).big
 rotate_left
 .rw[b1]at h;simp at h
 cases b2:(fcs p.2).big
 rotate_left
 .rw[b1,b2]at h;simp at h
 exact⟨xi2 c1 b1,xi2 c2 b2⟩
def RtD(D:List Px):Prop:=∀p∈D,RtP p.1/\RtP p.2
theorem chkS_0:∀(D:List Px) (k:Nat),(chkS k D).2=0->RtD D
 |[],_,_=>λ_ h=>by cases h
 |p::r,k,h=>by
  unfold chkS at h
  by_cases c:xac p=0
  .rw[xkv c]at h
   have:=chkS_0 r (k+1) h
   intro q hq
   rcases xl8.mp hq with rfl|hq
   .exact pxErr_0 c
   .exact this q hq
  .rw[xkw c]at h;exact absurd h c
structure RtI (L S:Int) (D:List Px):Prop where
 l:wi L 1 64=true
 s:wi S 1 64=true
 n:(D.length:Int)=L*S
 d:RtD D
theorem imE_0{L S:Int}{D:List Px}(h:(imE L S D).2=0):RtI L S D:=by
 unfold imE at h
 by_cases c:szE L S D.length=0
 .rw[xkv c]at h
  unfold szE at c
  cases c1:wi L 1 64
  .rw[c1]at c;simp at c
  cases c2:wi S 1 64
  .rw[c1,c2]at c;simp at c
  rw[c1,c2]at c
  by_cases c3:(D.length:Int)=L*S
  .exact⟨c1,c2,c3,chkS_0 D 0 h⟩
  .simp[c3]at c
 .rw[xkw c]at h;exact absurd h c
theorem Fz_i{x y:Nat}(hx:RtP x)(hy:RtP y){v:Value}(h:Fz (fcs x) (fcs y) v):Fzi (val x) (val y) v:=by
 obtain⟨s,k,h1,h2,h3⟩:=hx.val
 obtain⟨s',k',g1,g2,g3⟩:=hy.val
 rw[h1,g1]at h
 obtain⟨p,q,rfl,hp,hq⟩:=h
 rw[h3,g3]
 exact⟨p,q,rfl,Cl_I hp,Cl_I hq⟩
theorem s_c2ci{x y:Nat}(hx:RtP x)(hy:RtP y):∃r,sCvt Try.prog x5 x6 (C32 x y)=some r/\Is (Fzi (val x) (val y)) r:=by
 obtain⟨r,e,h⟩:=s_c2c x y
 exact⟨r,e,h.mono λv hv=>Fz_i hx hy hv⟩
def atM(L S:Int)(D:List Px)(l s:Int):Int×Int:=
 bif wi l 0 (L-1)&&wi s 0 (S-1)then(val (D.getD (l*S+s).toNat (0,0)).1,val (D.getD (l*S+s).toNat (0,0)).2)else(0,0)
theorem I_0:IsI 0 0:=⟨false,0,-1074,rfl,by omega,by omega,by
 show((0*2 ^ ((-1074:Int)+1074).toNat:Nat):Int)=0*2 ^ 1074
 rw[xlt,Int.zero_mul];rfl⟩
theorem at_in{L S l s:Int}{D:List Px}(hR:RtI L S D)(h1:wi l 0 (L-1)=true)(h2:wi s 0 (S-1)=true):0<=l*S+s/\l*S+s<D.length/\0<=l*S/\l*S<=4096:=by
 have a1:=wi_t h1
 have a2:=wi_t h2
 have a3:=wi_t hR.s
 have a4:=wi_t hR.l
 have b1:0<=l*S:=xoc (by omega) (by omega)
 have b2:l*S<=(L-1)*S:=Int.mul_le_mul_of_nonneg_right (by omega) (by omega)
 have b3:(L-1)*S=L*S-S:=by rw[Int.sub_mul,Int.one_mul]
 have b4:=xco hR.l hR.s
 have:=hR.n
 omega
variable{a:AV}{D:List Px}{L S:Int}
theorem w_at(d:Nat)(ha:Sl pxE a D)(hR:RtI L S D)(l s:Int)(m:Mem):∃r,x7p (x7o (d+2)) x1c [.agg [I L,I S,a],I l,I s] m=some (r,m)/\Is (Fzi (atM L S D l s).1 (atM L S D l s).2) r:=by
 have hl:=wi_t hR.l
 have hs:=wi_t hR.s
 cases c1:wi l 0 (L-1)
 .refine⟨.sc (.complex .f64 0 0),x81 (by simp[ha.still1]) ?_ m,?_⟩
  .rw[x4p]
   unfold x1u x1q
   simp(disch:=omega) [mem0,ha.one,xb7,c1,x86]
   exact RetF.st rfl rfl
  .unfold atM
   rw[c1]
   exact Is.sc ⟨0,0,rfl,I_0,I_0⟩
 cases c2:wi s 0 (S-1)
 .refine⟨.sc (.complex .f64 0 0),x81 (by simp[ha.still1]) ?_ m,?_⟩
  .rw[x4p]
   unfold x1u x1q
   simp(disch:=omega) [mem0,ha.one,xb7,c1,c2,x86]
   exact RetF.st rfl rfl
  .unfold atM
   rw[c1,c2]
   exact Is.sc ⟨0,0,rfl,I_0,I_0⟩
 obtain⟨b1,b2,b3,b4⟩:=at_in hR c1 c2
 have hk:(l*S+s).toNat<D.length:=by omega
 have ix:=ha.ixI pxL b1 b2
 rw[x8n hk,xlo]at ix
 have hrt:=hR.d _ (xln hk)
 obtain⟨r,e,hr⟩:=s_c2ci hrt.1 hrt.2
 have b5:=xco hR.l hR.s
 have b6:=hR.n
 refine⟨r,x81 (by simp[ha.still1]) ?_ m,?_⟩
 .rw[x4p]
  unfold x1u x1q
  simp(disch:=omega) [mem0,ha.one,xb7,c1,c2,x86,ix,pxE,e]
  exact RetF.st hr.oneZi.st rfl
 .unfold atM
  rw[c1,c2,xld,xla hk]
  exact hr
theorem w_lies(d:Nat)(hb:still1 a=true)(ho:a.one=true)(L S l s p q:Int)(h1:w64 (L-p)=L-p)(h2:w64 (S-q)=S-q)(m:Mem):x7p (x7o (d+2)) x15 [.agg [I L,I S,a],I l,I s,I p,I q] m=some (B (wi l 0 (L-p)&&wi s 0 (S-q)),m):=by
 refine x81 (by simp[hb]) ?_ m
 rw[x5v]
 unfold x42 x2v
 cases c1:wi l 0 (L-p)
 .simp[mem0,ho,x9f,h1,h2,c1]
  exact RetF.st rfl rfl
 .simp[mem0,ho,x9f,h1,h2,c1]
  exact RetF.st rfl rfl
theorem s_f32i{x:Nat}(h:RtP x):sCvt Try.prog x4 x7x (.sc (.float .f32 x))=some (I (val x)):=by
 obtain⟨s,k,h1,h2,h3⟩:=h.val
 refine sCvt_1 (A:=(·=.float .f32 x)) (Is.sc rfl) rfl (λu hu=>by subst hu;rfl) (λu hu=>?_)
 subst hu
 have hn:nfS Try.prog (convert x4 x7x (.float .f32 x))=nfS Try.prog (Conv.floatToInt .f32 x .i64):=by kernel_rfl
 rw[<-x93,hn,x93]
 unfold Conv.floatToInt
 have ht:(FloatKind.f32.decode x).toInt .zero=some (sg s k):=by
  show(single.read x).toInt .zero=_
  unfold fcs at h1
  cases hr:single.read x with
  |nan=>rw[hr]at h1;cases h1
  |infinity=>rw[hr]at h1;cases h1
  |number s' m e=>
   rw[hr]at h1
   simp only[Fc.num.injEq]at h1
   obtain⟨rfl,h1⟩:=h1
   obtain⟨q1,q2,q3⟩:=xhi hr
   unfold Datum.toInt
   rw[xf6,xdl (by omega),h1,Nat.mul_div_cancel _ (Nat.two_pow_pos _)]
   show some (signed s' k 0)=_
   unfold signed sg
   rw[Nat.shiftLeft_zero]
 simp only[ht]
 have e1:IntKind.i64.min=-9223372036854775808:=rfl
 have e2:IntKind.i64.max=9223372036854775807:=rfl
 have:=h.bd
 rw[h3]at this
 rw[e1,e2,xkv (by omega),h3]
 exact OkR.pure rfl
theorem w_Parts{x y:Nat}(hx:RtP x)(hy:RtP y)(d:Nat)(m:Mem):x7p (x7o (d+1)) x1a [C32 x y] m=some (.tup [I (val x),I (val y)],m):=by
 refine x81 (by simp) ?_ m
 rw[x62]
 unfold x49 x37
 simp[mem0,xck,xdo,s_f32i hx,s_f32i hy]
 exact RetF.tup rfl rfl
theorem w_rAt(d:Nat)(ha:Sl pxE a D)(hR:RtI L S D)(l s:Int)(m:Mem):x7p (x7o (d+3)) xp [.agg [I L,I S,a],I l,I s] m=some (.tup [I (atM L S D l s).1,I (atM L S D l s).2],m):=by
 have hl:=wi_t hR.l
 have hs:=wi_t hR.s
 have hlies:=λd m=>w_lies d ha.still1 ha.one L S l s 1 1 (x86 (by omega) (by omega)) (x86 (by omega) (by omega)) m
 refine x81 (by simp[ha.still1]) ?_ m
 rw[x5t]
 unfold x40 x2t atM
 cases c:(wi l 0 (L-1)&&wi s 0 (S-1))
 .simp[mem0,ha.one,hlies,c]
  exact RetF.tup rfl rfl
 have c':=c
 rw[xkz]at c'
 obtain⟨c1,c2⟩:=c'
 obtain⟨b1,b2,b3,b4⟩:=at_in hR c1 c2
 have hk:(l*S+s).toNat<D.length:=by omega
 have ix:=ha.ixI pxL b1 b2
 rw[x8n hk,xlo]at ix
 have hrt:=hR.d _ (xln hk)
 have b5:=xco hR.l hR.s
 have b6:=hR.n
 simp(disch:=omega) [mem0,ha.one,hlies,c,x86,ix,pxE,w_Parts hrt.1 hrt.2]
 exact RetF.tup rfl rfl
open Go.Proofs
theorem xdr(d:Nat)(k:Int)(m:Mem):x7p (x7o (d+2)) x16 [I k] m=some (B (wi k 0 2),m):=by
 refine x81 rfl ?_ m
 rw[x5x]
 unfold x44 x2x
 simp[mem0,xb7]
 exact RetF.st rfl rfl
theorem xbr(d:Nat)(k:Int)(m:Mem):x7p (x7o (d+2)) x10 [I k] m=some (B (wi k 0 2),m):=by
 refine x81 rfl ?_ m
 rw[x5l]
 unfold x3s x2g
 simp[mem0,x9f]
 exact RetF.st rfl rfl
theorem s_zmul{a b:AV}{p q u v:Int}{t:TypeId}{X Y:Operand}(ha:Is (Fzi p q) a)(hb:Is (Fzi u v) b)(h1:bd p 4000000000000000)(h2:bd q 4000000000000000)(h3:bd u 4000000000000000)(h4:bd v 4000000000000000)(k1:bd (p*u) 2000000000000000)(k2:bd (q*v) 2000000000000000)(k3:bd (p*v) 2000000000000000)(k4:bd (q*u) 2000000000000000):∃r,sBin Try.prog .mul t X Y a b=some r/\Is (Fzi (p*u-q*v) (p*v+q*u)) r:=by
 refine xdj ha hb ?_
 rintro _ _ ⟨x,y,rfl,hx,hy⟩ ⟨z,w,rfl,hz,hw⟩
 unfold bd at *
 obtain⟨e,f,h,he,hf⟩:=zi_mul hx hy hz hw (by omega) (by omega) (by omega) (by omega) (by omega) (by omega) (by omega) (by omega)
 have hb:binS .mul t X Y [.complex .f64 x y,.complex .f64 z w]=Op.complexOp .mul .f64 x y z w:=rfl
 rw[hb,h]
 exact OkR.pure ⟨one_Zi ⟨e,f,rfl,he,hf⟩,e,f,rfl,he,hf⟩
theorem s_zadd{a b:AV}{p q u v:Int}{t:TypeId}{X Y:Operand}(ha:Is (Fzi p q) a)(hb:Is (Fzi u v) b)(k1:bd (p+u) 4000000000000000)(k2:bd (q+v) 4000000000000000):∃r,sBin Try.prog .add t X Y a b=some r/\Is (Fzi (p+u) (q+v)) r:=by
 refine xdj ha hb ?_
 rintro _ _ ⟨x,y,rfl,hx,hy⟩ ⟨z,w,rfl,hz,hw⟩
 unfold bd at *
 obtain⟨e,f,h,he,hf⟩:=zi_add hx hy hz hw (by omega) (by omega)
 have hb:binS .add t X Y [.complex .f64 x y,.complex .f64 z w]=Op.complexOp .add .f64 x y z w:=rfl
 rw[hb,h]
 exact OkR.pure ⟨one_Zi ⟨e,f,rfl,he,hf⟩,e,f,rfl,he,hf⟩
theorem s_zreal{a:AV}{p q:Int}{t:TypeId}{ts:Array TypeId}(ha:Is (Fzi p q) a):∃r,x7y Try.prog .real ts t [a]=some r/\Is (Fi p) r:=by
 refine xdk ha ?_
 rintro _ ⟨u,v,rfl,hu,hv⟩
 exact OkR.pure ⟨one_Fi ⟨u,rfl,hu⟩,u,rfl,hu⟩
theorem s_zimag{a:AV}{p q:Int}{t:TypeId}{ts:Array TypeId}(ha:Is (Fzi p q) a):∃r,x7y Try.prog .imag ts t [a]=some r/\Is (Fi q) r:=by
 refine xdk ha ?_
 rintro _ ⟨u,v,rfl,hu,hv⟩
 exact OkR.pure ⟨one_Fi ⟨v,rfl,hv⟩,v,rfl,hv⟩
theorem s_fi{a:AV}{n:Int}(ha:Is (Fi n) a)(hn:bd n 9000000000000000000):sCvt Try.prog x3 x7x a=some (I n):=by
 refine sCvt_1 (A:=Fi n) ha rfl (λu hu=>by obtain⟨w,rfl,-⟩:=hu;rfl) (λu hu=>?_)
 obtain⟨w,rfl,hw⟩:=hu
 have hn':nfS Try.prog (convert x3 x7x (.float .f64 w))=nfS Try.prog (Conv.floatToInt .f64 w .i64):=by kernel_rfl
 rw[<-x93,hn',x93]
 unfold Conv.floatToInt
 simp only[I_toInt hw]
 have e1:IntKind.i64.min=-9223372036854775808:=rfl
 have e2:IntKind.i64.max=9223372036854775807:=rfl
 unfold bd at hn
 rw[e1,e2,xkv (by omega)]
 exact OkR.pure rfl
theorem s_if64(n:Int):sCvt Try.prog x7x x3 (I n)=some (.sc (.float .f64 (FloatKind.f64.nearest n))):=by
 have hn:x7t Try.prog (convert x7x x3 (.int .i64 n))=some (.float .f64 (FloatKind.f64.nearest n)):=by kernel_rfl
 unfold sCvt cvt0
 simp only[show x7v (I n)=some (.int .i64 n)from rfl,show xae Try.prog x7x x3 (.int .i64 n)=none from rfl,hn]
 rfl
theorem s_if32(n:Int):sCvt Try.prog x7x x4 (I n)=some (.sc (.float .f32 (FloatKind.f32.nearest n))):=by
 have hn:x7t Try.prog (convert x7x x4 (.int .i64 n))=some (.float .f32 (FloatKind.f32.nearest n)):=by kernel_rfl
 unfold sCvt cvt0
 simp only[show x7v (I n)=some (.int .i64 n)from rfl,show xae Try.prog x7x x4 (.int .i64 n)=none from rfl,hn]
 rfl
theorem cplx64(x y:Nat):x7y Try.prog .complex #[x3,x3] x6 [.sc (.float .f64 x),.sc (.float .f64 y)]=some (.sc (.complex .f64 x y)):=by
 have h:x7t Try.prog (biS .complex #[x3,x3] x6 [.float .f64 x,.float .f64 y])=some (.complex .f64 x y):=by kernel_rfl
 unfold x7y bi0
 simp only[show x83 [AV.sc (.float .f64 x),AV.sc (.float .f64 y)]=some [.float .f64 x,.float .f64 y]from rfl,h]
 rfl
def kwM(k p:Int):List Int:=if k=0 then[1-p / 8,p / 8]else if k=1 then[16-p,p]else[32*p*p-p*p*p-256*p,3*p*p*p-80*p*p+8192,64*p*p-3*p*p*p+256*p,p*p*p-16*p*p]
def kA(k:Int):Int:=if k=2 then 1 else 0
def kS(k:Int):Int:=if k=0 then 1 else if k=1 then 16 else 8192
theorem xfd{Q:Int->Int->Prop}{k p:Int}(hk:wi k 0 2=true)(hp:0<=p/\p<=15)(h:∀k p:Int,(k=0\/k=1\/k=2)->(p=0\/p=1\/p=2\/p=3\/p=4\/p=5\/p=6\/p=7\/p=8\/p=9\/p=10\/p=11\/p=12\/p=13\/p=14\/p=15)->Q k p):Q k p:=by
 have:=wi_t hk
 exact h k p (by omega) (by omega)
theorem xbs{k p:Int}(hk:wi k 0 2=true)(hp:0<=p/\p<=15):(∀w∈kwM k p,bd w 8192)/\(kwM k p).length<=4:=by
 refine xfd (Q:=λk p=>(∀w∈kwM k p,bd w 8192)/\(kwM k p).length<=4) hk hp ?_
 clear hk hp k p
 intro k p hk hp
 unfold bd
 rcases hk with rfl|rfl|rfl<;>rcases hp with rfl|rfl|rfl|rfl|rfl|rfl|rfl|rfl|rfl|rfl|rfl|rfl|rfl|rfl|rfl|rfl<;>decide
theorem kw_0{k:Int}(hk:wi k 0 2=true):kwM k 0=if k=0 then[1,0]else if k=1 then[16,0]else[0,8192,0,0]:=by
 have:=wi_t hk
 have:k=0\/k=1\/k=2:=by omega
 rcases this with rfl|rfl|rfl<;>decide
theorem xjp{k p:Int}(hk:wi k 0 2=true)(hp:0<=p/\p<=15):∀d:Nat,((x7o (d+1) [] x20 [I k,I p] mem0).bind λq=>Go.Ix.frz q.2.get deep q.1)=some (.agg [.slit ((kwM k p).flatMap intE) (kwM k p).length true,I (kA k),I (kS k)]):=by
 refine xfd (Q:=λk p=>∀d:Nat,((x7o (d+1) [] x20 [I k,I p] mem0).bind λq=>Go.Ix.frz q.2.get deep q.1)=some (.agg [.slit ((kwM k p).flatMap intE) (kwM k p).length true,I (kA k),I (kS k)])) hk hp ?_
 clear hk hp k p
 intro k p hk hp d
 rcases hk with rfl|rfl|rfl<;>rcases hp with rfl|rfl|rfl|rfl|rfl|rfl|rfl|rfl|rfl|rfl|rfl|rfl|rfl|rfl|rfl|rfl<;>kernel_rfl
theorem xi3{k p:Int}(hk:wi k 0 2=true)(hp:0<=p/\p<=15)(d:Nat)(m:Mem):x7p (x7o (d+1)) x20 [I k,I p] m=some (.agg [.slit ((kwM k p).flatMap intE) (kwM k p).length true,I (kA k),I (kS k)],m):=
 x81 rfl (retF_e (xjp hk hp d)) m
theorem xjq{k p:Int}(hk:wi k 0 2=true)(hp:0<=p/\p<=15):∀d:Nat,((x7o (d+1) [] x1y [I k,I p] mem0).bind λq=>Go.Ix.frz q.2.get deep q.1)=some (.tup [.slit ((kwM k p).flatMap intE) (kwM k p).length true,I (kS k)]):=by
 refine xfd (Q:=λk p=>∀d:Nat,((x7o (d+1) [] x1y [I k,I p] mem0).bind λq=>Go.Ix.frz q.2.get deep q.1)=some (.tup [.slit ((kwM k p).flatMap intE) (kwM k p).length true,I (kS k)])) hk hp ?_
 clear hk hp k p
 intro k p hk hp d
 rcases hk with rfl|rfl|rfl<;>rcases hp with rfl|rfl|rfl|rfl|rfl|rfl|rfl|rfl|rfl|rfl|rfl|rfl|rfl|rfl|rfl|rfl<;>kernel_rfl
theorem xi4{k p:Int}(hk:wi k 0 2=true)(hp:0<=p/\p<=15)(d:Nat)(m:Mem):x7p (x7o (d+1)) x1y [I k,I p] m=some (.tup [.slit ((kwM k p).flatMap intE) (kwM k p).length true,I (kS k)],m):=
 x81 rfl (retF_e (xjq hk hp d)) m
def rowS(v:Int)(f:Int->Int):Int->List Int->Int
 |_,[]=>0
 |s,w::r=>v*w*f s+rowS v f (s+1) r
def x8o(f:Int->Int->Int)(s:Int)(W:List Int):Int->List Int->Int
 |_,[]=>0
 |l,v::V=>rowS v (f l) s W+x8o f s W (l+1) V
theorem vw_bd{v w x:Int}(hv:bd v 8192)(hw:bd w 8192)(hx:bd x 2047):bd (v*w) 67108864/\bd (v*w*x) 137371844608:=by
 have h1:=hv.mul hw
 have h2:=h1.mul hx
 exact⟨h1.mono (by decide),h2.mono (by decide)⟩
theorem xbt{v:Int}{f:Int->Int}(hv:bd v 8192)(hf:∀s,bd (f s) 2047):∀(W:List Int) (s:Int),(∀w∈W,bd w 8192)->bd (rowS v f s W) (W.length*137371844608)
 |[],s,_=>by unfold rowS bd;simp
 |w::r,s,h=>by
  have h1:=(vw_bd hv (h w (by simp)) (hf s)).2
  have h2:=xbt hv hf r (s+1) λx hx=>h x (by simp[hx])
  unfold rowS
  unfold bd at *
  simp only[xl6,xn2]
  generalize v*w*f s=A at *
  generalize rowS v f (s+1) r=B at *
  omega
theorem xfe{f:Int->Int->Int}{s:Int}{W:List Int}(hf:∀l s,bd (f l s) 2047)(hW:∀w∈W,bd w 8192)(h4:W.length<=4):∀(V:List Int) (l:Int),(∀v∈V,bd v 8192)->bd (x8o f s W l V) (V.length*549487378432)
 |[],l,_=>by unfold x8o bd;simp
 |v::V,l,h=>by
  have h1:=xbt (h v (by simp)) (hf l) W s hW
  have h2:=xfe (s:=s) hf hW h4 V (l+1) λx hx=>h x (by simp[hx])
  unfold x8o
  unfold bd at *
  simp only[xl6,xn2]
  generalize rowS v (f l) s W=A at *
  generalize x8o f s W (l+1) V=B at *
  omega
theorem xa1{L S:Int}{D:List Px}(hR:RtI L S D)(l s:Int):bd (atM L S D l s).1 2047/\bd (atM L S D l s).2 2047:=by
 unfold atM
 cases c:(wi l 0 (L-1)&&wi s 0 (S-1))
 .unfold bd;simp
 rw[xkz]at c
 obtain⟨b1,b2,-,-⟩:=at_in hR c.1 c.2
 have hk:(l*S+s).toNat<D.length:=by omega
 have hrt:=hR.d _ (xln hk)
 rw[xcc,xld,xla hk]
 exact⟨hrt.1.bd,hrt.2.bd⟩
theorem xb9:Try.prog.underlying x1m=some (.slice x7x):=by kernel_rfl
abbrev slI(l:List Int):AV:=.slit (l.flatMap intE) l.length true
theorem x9r(l:List Int):Sl intE (slI l) l:=Sl.lit l true
variable{a:AV}{D:List Px}{L S:Int}
section
variable(d:Nat)(hs:FHs)(u:Nat)(ha:Sl pxE a D)(hR:RtI L S D)
include ha hR
theorem l_smp1(rec0:xa2)(V W:List Int)(hW:∀w∈W,bd w 8192)(h4:W.length<=4)(ln sm ah bh ks v:Int)(i:Nat)(hv:bd v 8192)(hln:bd ln 1000000000000000000)(hsm:bd sm 1000000000000000000)(hah:0<=ah/\ah<=1)(hbh:0<=bh/\bh<=1)(hi:i<=4){t38 t39 xV:AV}(m:Mem)(g3:m.get (u,0,3)=some (.row [I L,I S,a] 0 false))(g9:m.get (u,25,9)=some (.row [xV,I ah,I ks] 0 false))(g10:m.get (u,26,10)=some (.row [slI W,I bh,I ks] 0 false)) :
 ∀(suf:List Int) (k j:Nat) (r:AV) (A B:Int) (fc:Nat),W.drop k=suf->suf.length<j->Is (Fzi A B) r->bd A (3000000000000000-suf.length*137371844608)->bd B (3000000000000000-suf.length*137371844608) ->
 ∃r' fc',x1o (x7o (d+2)) hs u rec0 j (.ptr (u,0,3) 0 0) (I ln) (I sm) (.ptr (u,25,9) 0 0) (.ptr (u,26,10) 0 0) r (I i) (I v) t38 t39 (I i) (slI W) (I W.length) (I k) m fc
  = x30 (x7o (d+2)) hs u rec0 (.ptr (u,0,3) 0 0) (I ln) (I sm) (.ptr (u,25,9) 0 0) (.ptr (u,26,10) 0 0) r' t38 t39 (I i) m fc' /\
  Is (Fzi (A+rowS v (λs=>(atM L S D (ln+i-ah) s).1) (sm+k-bh) suf) (B+rowS v (λs=>(atM L S D (ln+i-ah) s).2) (sm+k-bh) suf)) r':=by
 intro suf
 induction suf with
 |nil=>
  intro k j r A B fc hd hj hr hA hB
  obtain⟨j,rfl⟩:∃i,j=i+1:=⟨j-1,by simp at hj;omega⟩
  have hk:¬((k:Int)<(W.length:Int)):=by have:=xmj.mp hd;omega
  refine⟨r,fc+1,?_,by simpa[rowS]using hr⟩
  simp only[x1o]
  unfold x31
  simp[hk]
 |cons w suf ih=>
  intro k j r A B fc hd hj hr hA hB
  obtain⟨j,rfl⟩:∃i,j=i+1:=⟨j-1,by simp at hj;omega⟩
  obtain⟨hk,he,hd⟩:=xb4 hd
  have hk':(k:Int)<(W.length:Int):=by omega
  have ix:=(x9r W).ix (z:=1) (λ_=>rfl) hk
  rw[x8n hk,xlo,he]at ix
  have hw:bd w 8192:=hW w (he▸xln hk)
  have hat:=xa1 hR (ln+i-ah) (sm+k-bh)
  obtain⟨z,ez,hz⟩:=w_at d ha hR (ln+i-ah) (sm+k-bh) m
  have hv1:=vw_bd hv hw hat.1
  have hv2:=vw_bd hv hw hat.2
  have hvw:v*w<=67108864/\-67108864<=v*w:=⟨hv1.1.2,hv1.1.1⟩
  have hc:Is (Fzi (v*w) 0) (.sc (.complex .f64 (FloatKind.f64.nearest (v*w)) 0)):=Is.sc ⟨_,_,rfl,I_int (by omega),I_0⟩
  generalize hP:(atM L S D (ln+i-ah) (sm+k-bh)).1=P at *
  generalize hQ:(atM L S D (ln+i-ah) (sm+k-bh)).2=Q at *
  obtain⟨y,ey,hy⟩:=s_zmul (t:=x6) (X:=.tmp 58) (Y:=.tmp 72) hc hz (by unfold bd;omega) (by unfold bd;omega) (hat.1.mono (by decide)) (hat.2.mono (by decide)) (hv1.2.mono (by decide)) (by rw[Int.zero_mul];unfold bd;omega) (hv2.2.mono (by decide)) (by rw[Int.zero_mul];unfold bd;omega)
  have hy:Is (Fzi (v*w*P) (v*w*Q)) y:=by simpa using hy
  have q1:=hv1.2
  have q2:=hv2.2
  unfold bd at hln hsm q1 q2 hA hB
  simp only[xl6,xn2]at hA hB
  obtain⟨x,ex,hx⟩:=s_zadd (t:=x6) (X:=.tmp 53) (Y:=.tmp 73) hr hy (by unfold bd;omega) (by unfold bd;omega)
  have hkl:k<=4:=by omega
  obtain⟨r',fc',e,hr'⟩:=ih (k+1) j x (A+v*w*P) (B+v*w*Q) (fc+31) hd (by simp at hj;omega) hx (by unfold bd;omega) (by unfold bd;omega)
  refine⟨r',fc',?_,?_⟩
  .rw[<-e]
   simp only[x1o]
   conv=>lhs;unfold x31
   simp(disch:=omega) [hk',ix,intE,x86,s_if64,cplx64,g3,g9,g10,ez,ey,ex]
  .unfold rowS
   rw[hP,hQ]
   have e1:sm+((k+1:Nat):Int)-bh=sm+k-bh+1:=by omega
   rw[e1]at hr'
   rw[<-xmk,<-xmk]
   exact hr'
theorem l_smp0(V W:List Int)(hV:∀w∈V,bd w 8192)(hV4:V.length<=4)(hW:∀w∈W,bd w 8192)(h4:W.length<=4)(ln sm ah bh ks:Int)(hln:bd ln 1000000000000000000)(hsm:bd sm 1000000000000000000)(hah:0<=ah/\ah<=1)(hbh:0<=bh/\bh<=1){xV:AV}(m:Mem)(g3:m.get (u,0,3)=some (.row [I L,I S,a] 0 false))(g9:m.get (u,25,9)=some (.row [xV,I ah,I ks] 0 false))(g10:m.get (u,26,10)=some (.row [slI W,I bh,I ks] 0 false)) :
 ∀(suf:List Int) (i j:Nat) (r:AV) (A B:Int) (fc:Nat),V.drop i=suf->suf.length<j->Is (Fzi A B) r->bd A (2000000000000000-suf.length*549487378432)->bd B (2000000000000000-suf.length*549487378432) ->
 ∃r' fc',xz (x7o (d+2)) hs u j (.ptr (u,0,3) 0 0) (I ln) (I sm) (.ptr (u,25,9) 0 0) (.ptr (u,26,10) 0 0) r (slI V) (I V.length) (I i) m fc
  = x2z (x7o (d+2)) hs u (.ptr (u,25,9) 0 0) (.ptr (u,26,10) 0 0) r' m fc' /\
  Is (Fzi (A+x8o (λl s=>(atM L S D l s).1) (sm-bh) W (ln+i-ah) suf) (B+x8o (λl s=>(atM L S D l s).2) (sm-bh) W (ln+i-ah) suf)) r':=by
 intro suf
 induction suf with
 |nil=>
  intro i j r A B fc hd hj hr hA hB
  obtain⟨j,rfl⟩:∃i,j=i+1:=⟨j-1,by simp at hj;omega⟩
  have hk:¬((i:Int)<(V.length:Int)):=by have:=xmj.mp hd;omega
  refine⟨r,fc+1,?_,by simpa[x8o]using hr⟩
  simp only[xz]
  unfold x32
  simp[hk]
 |cons v suf ih=>
  intro i j r A B fc hd hj hr hA hB
  obtain⟨j,rfl⟩:∃i,j=i+1:=⟨j-1,by simp at hj;omega⟩
  obtain⟨hk,he,hd⟩:=xb4 hd
  have hk':(i:Int)<(V.length:Int):=by omega
  have ix:=(x9r V).ix (z:=1) (λ_=>rfl) hk
  rw[x8n hk,xlo,he]at ix
  have hv:bd v 8192:=hV v (he▸xln hk)
  have b1:=xbt (f:=λs=>(atM L S D (ln+i-ah) s).1) hv (λs=>(xa1 hR _ s).1) W (sm-bh) hW
  have b2:=xbt (f:=λs=>(atM L S D (ln+i-ah) s).2) hv (λs=>(xa1 hR _ s).2) W (sm-bh) hW
  unfold bd at hA hB b1 b2
  simp only[xl6,xn2]at hA hB
  obtain⟨r1,fc1,e1,hr1⟩:=l_smp1 d hs u ha hR (xz (x7o (d+2)) hs u j) V W hW h4 ln sm ah bh ks v i hv hln hsm hah hbh (by omega) (t38:=slI V) (t39:=I V.length) m g3 g9 g10 W 0 NN r A B (fc+1+9) rfl (by rw[xab];omega) hr (by unfold bd;omega) (by unfold bd;omega)
  rw[show sm+((0:Nat):Int)-bh=sm-bh by omega]at hr1
  obtain⟨r',fc',e,hr'⟩:=ih (i+1) j r1 _ _ (fc1+2) hd (by simp at hj;omega) hr1 (by unfold bd;omega) (by unfold bd;omega)
  refine⟨r',fc',?_,?_⟩
  .rw[<-e]
   simp only[xz]
   conv=>lhs;unfold x32 x53
   simp only[xaa,hk',decide_true,x8g,xap,ix]
   simp[intE,g10,(x9r W).len xb9]
   rw[show(0:Int)=((0:Nat):Int)from rfl,e1]
   unfold x30
   simp(disch:=omega) [x86]
  .unfold x8o
   have e1:ln+((i+1:Nat):Int)-ah=ln+i-ah+1:=by omega
   rw[e1]at hr'
   rw[<-xmk,<-xmk]
   exact hr'
end
end Go.Ix
