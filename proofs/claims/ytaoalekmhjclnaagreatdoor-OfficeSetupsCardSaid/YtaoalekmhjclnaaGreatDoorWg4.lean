import Derived.Test.YtaoalekmhjclnaaGreatDoorWg3
import Derived.ProofKit
import Derived.Test.YtaoalekmhjclnaaGreatDoorWg0
import Derived.Laws.StructEq
namespace Go.Ix
open Go.Proofs
theorem x1ep{v:AV}{call:x17y}{f:FuncId}{l:List AV}(h:((call [] f l mem0).bind λp=>Go.Ix.frz p.2.get deep p.1)=some v):RetF (λa=>a=v) (call [] f l mem0):=by
 rw[x1to]at h
 obtain⟨⟨a,m'⟩,h1,h2⟩:=h
 exact⟨a,m',v,h1,h2,rfl⟩
end Go.Ix
set_option linter.unusedSimpArgs false
set_option linter.unusedVariables false
namespace Go.Ix
open Go.Proofs
variable{P:Program}
theorem x1d9{α β:Type}(f:α->Sem β):∀s:Sem α,x18p P (s >>= f)=(x18p P s).bind λa=>x18p P (f a):=by
 intro s
 show x18p P (Sem.bind s f)=_
 induction s with
 |pure a=>rfl
 |program k ih=>exact ih P
 |mark x k ih=>exact ih
 |_=>rfl
theorem x1fs{α:Type}(a:α):x18p P (pure a:Sem α)=some a:=rfl
theorem x1m3:x18p P program=some P:=rfl
theorem x1kb{t:TypeId}{d:TypeDesc}(h:P.underlying t=some d):x18p P (underlying t)=some d:=by
 simp only[underlying,x1d9,x1m3,x182,h]
 rfl
theorem x1hg(d:Nat)(t:TypeId)(k k':IntKind)(a b:Int)(h:P.underlying t=some (.int k')):x18p P (Op.equalIn (d+1) t (.int k a) (.int k b))=some (a == b):=by
 simp[Op.equalIn,x1d9,x1kb h,x1fs]
theorem x1hh:Tryz.prog.underlying x18n=some (.int .i64):=by kernel_rfl
end Go.Ix
set_option maxRecDepth 10000
namespace Go.Ix
open Go.Proofs
def Pl.c(p:Pl):List AV:=[I p.x,I p.y,I p.z]
theorem Pl.len(p:Pl):p.c.length=3:=rfl
theorem Pl.still(p:Pl):p.c.all still1=true:=rfl
def Pl.k(p:Pl):AV:=.agg [I p.x,I p.y]
def sdC(s:Pl×Pl):List AV:=[I s.1.x,I s.1.y,I s.2.x,I s.2.y]
theorem x1b7(s:Pl×Pl):(sdC s).length=4:=rfl
theorem sdC_still(s:Pl×Pl):(sdC s).all still1=true:=rfl
def InP(p:Pl):Prop:=(-100000000<=p.x/\p.x<=100000000)/\(-100000000<=p.y/\p.y<=100000000)
theorem x1cg{u v:Int}(hu:-200000000<=u/\u<=200000000)(hv:-200000000<=v/\v<=200000000):-40000000000000000<=u*v/\u*v<=40000000000000000:=by
 have h1:u.natAbs<=200000000:=by omega
 have h2:v.natAbs<=200000000:=by omega
 have h3:(u*v).natAbs<=200000000*200000000:=by
  rw[Int.natAbs_mul]
  exact Nat.mul_le_mul h1 h2
 omega
theorem w_less(d:Nat)(a b c e:Int)(m:Mem):x17z (x180 (d+1)) x1p [.agg [I a,I b],.agg [I c,I e]] m=some (.agg [I (w64 (a-c)),I (w64 (b-e))],m):=x195 rfl (x1ep (by kernel_rfl)) m
theorem w_gcross(d:Nat)(a b c e:Int)(m:Mem):x17z (x180 (d+1)) x4p [.agg [I a,I b],.agg [I c,I e]] m=some (I (w64 (w64 (a*e)-w64 (b*c))),m):=x195 rfl (x1ep (by kernel_rfl)) m
theorem w_gdot(d:Nat)(a b c e:Int)(m:Mem):x17z (x180 (d+1)) x4l [.agg [I a,I b],.agg [I c,I e]] m=some (I (w64 (w64 (a*c)+w64 (b*e))),m):=x195 rfl (x1ep (by kernel_rfl)) m
theorem x1hi(d:Nat)(p:Pl)(m:Mem):x17z (x180 (d+1)) x26 [.agg p.c] m=some (p.k,m):=x195 rfl (x1ep (by kernel_rfl)) m
theorem x1dt(d:Nat){a b p:Pl}(ha:InP a)(hb:InP b)(hp:InP p)(m:Mem):x17z (x180 (d+2)) xx [.agg (sdC (a,b)),p.k] m=some (I (x18o a b p),m):=by
 obtain⟨a1,a2⟩:=ha
 obtain⟨b1,b2⟩:=hb
 obtain⟨p1,p2⟩:=hp
 have q1:w64 (b.x-a.x)=b.x-a.x:=x18i (by omega) (by omega)
 have q2:w64 (b.y-a.y)=b.y-a.y:=x18i (by omega) (by omega)
 have q3:w64 (p.x-a.x)=p.x-a.x:=x18i (by omega) (by omega)
 have q4:w64 (p.y-a.y)=p.y-a.y:=x18i (by omega) (by omega)
 have k1:=x1cg (u:=b.x-a.x) (v:=p.y-a.y) (by omega) (by omega)
 have k2:=x1cg (u:=b.y-a.y) (v:=p.x-a.x) (by omega) (by omega)
 have q5:w64 ((b.x-a.x)*(p.y-a.y))=(b.x-a.x)*(p.y-a.y):=x18i (by omega) (by omega)
 have q6:w64 ((b.y-a.y)*(p.x-a.x))=(b.y-a.y)*(p.x-a.x):=x18i (by omega) (by omega)
 have q7:w64 ((b.x-a.x)*(p.y-a.y)-(b.y-a.y)*(p.x-a.x))=crP a b p:=by rw[x18i (by omega) (by omega)];rfl
 refine x195 rfl ?_ m
 rw[x10r]
 unfold xce xaq
 obtain⟨M,hM⟩:∃M:Mem,M=((⟨[],1⟩:Mem).new (0,0,2) (.row (sdC (a,b)) 0 false)).new (0,0+1,3) (.row [I p.x,I p.y] 0 false):=⟨_,rfl⟩
 have g2:M.get (0,0,2)=some (.row [I a.x,I a.y,I b.x,I b.y] 0 false):=by rw[hM];simp[sdC]
 have g3:M.get (0,1,3)=some (.row [I p.x,I p.y] 0 false):=by rw[hM];simp
 have hn:M.next=1:=by rw[hM];rfl
 simp only[mem0,x19f,x19n,Pl.k,sdC,x1th,x1tv,x1bo,x1tm,x18m]
 rw[show(((⟨[],1⟩:Mem).new (0,0,2) (.row [I a.x,I a.y,I b.x,I b.y] 0 false)).new (0,0+1,3) (.row [I p.x,I p.y] 0 false))=M from hM.symm]
 simp only[x18g,x182,x183 g2,x183 g3,x1sg,x1sf,x1sj,rd,x1so,x1sx,x1t7,x1t8,x1t2,x1sn]
 simp[g2,g3,w_less,q1,q2,q3,q4,w_gcross,q5,q6,q7,cAp,tR,mkM,hn,x18o,trP,show Nat.blt 0 1=true from rfl]
 by_cases c1:0<crP a b p
 .simp[c1]
  exact RetF.st rfl rfl
 .by_cases c2:crP a b p<0
  .simp[c1,c2]
   exact RetF.st rfl rfl
  .simp[c1,c2]
   exact RetF.st rfl rfl
theorem x1by(d:Nat){a b p:Pl}(ha:InP a)(hb:InP b)(hp:InP p)(m:Mem):x17z (x180 (d+3)) xn [.agg (sdC (a,b)),p.k] m=some (B (hasP a b p),m):=by
 have ht:=x1dt d ha hb hp
 obtain⟨a1,a2⟩:=ha
 obtain⟨b1,b2⟩:=hb
 obtain⟨p1,p2⟩:=hp
 have q1:w64 (a.x-p.x)=a.x-p.x:=x18i (by omega) (by omega)
 have q2:w64 (a.y-p.y)=a.y-p.y:=x18i (by omega) (by omega)
 have q3:w64 (b.x-p.x)=b.x-p.x:=x18i (by omega) (by omega)
 have q4:w64 (b.y-p.y)=b.y-p.y:=x18i (by omega) (by omega)
 have k1:=x1cg (u:=a.x-p.x) (v:=b.x-p.x) (by omega) (by omega)
 have k2:=x1cg (u:=a.y-p.y) (v:=b.y-p.y) (by omega) (by omega)
 have q5:w64 ((a.x-p.x)*(b.x-p.x))=(a.x-p.x)*(b.x-p.x):=x18i (by omega) (by omega)
 have q6:w64 ((a.y-p.y)*(b.y-p.y))=(a.y-p.y)*(b.y-p.y):=x18i (by omega) (by omega)
 have q7:w64 ((a.x-p.x)*(b.x-p.x)+(a.y-p.y)*(b.y-p.y))=dotP a b p:=by rw[x18i (by omega) (by omega)];rfl
 refine x195 rfl ?_ m
 rw[x10h]
 unfold xc4 xa6
 obtain⟨M,hM⟩:∃M:Mem,M=((⟨[],1⟩:Mem).new (0,0,2) (.row (sdC (a,b)) 0 false)).new (0,0+1,3) (.row [I p.x,I p.y] 0 false):=⟨_,rfl⟩
 have g2:M.get (0,0,2)=some (.row [I a.x,I a.y,I b.x,I b.y] 0 false):=by rw[hM];simp[sdC]
 have g3:M.get (0,1,3)=some (.row [I p.x,I p.y] 0 false):=by rw[hM];simp
 have hn:M.next=1:=by rw[hM];rfl
 simp only[Pl.k,sdC]at ht
 simp only[mem0,x19f,x19n,Pl.k,sdC,x1th,x1tv,x1bo,x1tm,x18m]
 rw[show(((⟨[],1⟩:Mem).new (0,0,2) (.row [I a.x,I a.y,I b.x,I b.y] 0 false)).new (0,0+1,3) (.row [I p.x,I p.y] 0 false))=M from hM.symm]
 simp only[x18g,x182,x183 g2,x183 g3,x1sg,x1sf,x1sj,rd,x1so,x1sx,x1t7,x1t8,x1t2,x1sn,ht,x1a9]
 unfold hasP
 by_cases c:x18o a b p=0
 .simp[ht,g2,g3,c,x183 g2,x183 g3,rd,w_less,q1,q2,q3,q4,w_gdot,q5,q6,q7,cAp,tR,mkM,hn,show Nat.blt 0 1=true from rfl]
  exact RetF.st rfl rfl
 .simp[ht,c,cAp,tR,mkM,hn,show Nat.blt 0 1=true from rfl]
  exact RetF.st rfl rfl
theorem w_meets(d:Nat){a b p q:Pl}(ha:InP a)(hb:InP b)(hp:InP p)(hq:InP q)(m:Mem):x17z (x180 (d+4)) x33 [.agg (sdC (a,b)),.agg (sdC (p,q))] m=some (B (x1eo a b p q),m):=by
 have t1:=x1dt (d+1) ha hb hp
 have t2:=x1dt (d+1) ha hb hq
 have t3:=x1dt (d+1) hp hq ha
 have t4:=x1dt (d+1) hp hq hb
 have h1:=x1by d ha hb hp
 have h2:=x1by d ha hb hq
 have h3:=x1by d hp hq ha
 have h4:=x1by d hp hq hb
 refine x195 rfl ?_ m
 rw[x10i]
 unfold xc5 xa7
 obtain⟨M,hM⟩:∃M:Mem,M=((⟨[],1⟩:Mem).new (0,0,2) (.row [I a.x,I a.y,I b.x,I b.y] 0 false)).new (0,0+1,3) (.row [I p.x,I p.y,I q.x,I q.y] 0 false):=⟨_,rfl⟩
 have g2:M.get (0,0,2)=some (.row [I a.x,I a.y,I b.x,I b.y] 0 false):=by rw[hM];simp
 have g3:M.get (0,1,3)=some (.row [I p.x,I p.y,I q.x,I q.y] 0 false):=by rw[hM];simp
 have hn:M.next=1:=by rw[hM];rfl
 simp only[Pl.k,sdC]at t1 t2 t3 t4 h1 h2 h3 h4
 simp only[mem0,x19f,x19n,sdC,x1th,x1tv,x1bo,x1tm,x18m]
 rw[show(((⟨[],1⟩:Mem).new (0,0,2) (.row [I a.x,I a.y,I b.x,I b.y] 0 false)).new (0,0+1,3) (.row [I p.x,I p.y,I q.x,I q.y] 0 false))=M from hM.symm]
 simp only[x18g,x182,x183 g2,x183 g3,x1sg,x1sf,x1sj,rd,x1so,x1sx,x1t7,x1t8,x1t2,x1sn,h1]
 unfold x1eo
 cases x1:hasP a b p
 .cases x2:hasP a b q
  .cases x3:hasP p q a
   .cases x4:hasP p q b
    .by_cases c:x18o a b p=x18o a b q
     .simp[x1,x2,x3,x4,h1,g2,g3,x183 g2,x183 g3,rd,h2,h3,h4,t1,t2,c,cAp,tR,mkM,hn,show Nat.blt 0 1=true from rfl]
      exact RetF.st rfl rfl
     .simp[x1,x2,x3,x4,h1,g2,g3,x183 g2,x183 g3,rd,h2,h3,h4,t1,t2,t3,t4,c,cAp,tR,mkM,hn,show Nat.blt 0 1=true from rfl]
      exact RetF.st rfl rfl
    .simp[x1,x2,x3,x4,h1,g2,g3,x183 g2,x183 g3,rd,h2,h3,h4]
     exact RetF.st rfl rfl
   .simp[x1,x2,x3,h1,g2,g3,x183 g2,x183 g3,rd,h2,h3]
    exact RetF.st rfl rfl
  .simp[x1,x2,h1,g2,g3,x183 g2,x183 g3,rd,h2]
   exact RetF.st rfl rfl
 .simp[x1,h1]
  exact RetF.st rfl rfl
theorem x1ft(d:Nat){a b p:Pl}(ha:InP a)(hb:InP b)(hp:InP p)(m:Mem):x17z (x180 (d+1)) x1a [.agg a.c,.agg b.c,.agg p.c] m=some (I (crP a b p),m):=by
 obtain⟨a1,a2⟩:=ha
 obtain⟨b1,b2⟩:=hb
 obtain⟨p1,p2⟩:=hp
 have q1:w64 (b.x-a.x)=b.x-a.x:=x18i (by omega) (by omega)
 have q2:w64 (b.y-a.y)=b.y-a.y:=x18i (by omega) (by omega)
 have q3:w64 (p.x-a.x)=p.x-a.x:=x18i (by omega) (by omega)
 have q4:w64 (p.y-a.y)=p.y-a.y:=x18i (by omega) (by omega)
 have k1:=x1cg (u:=b.x-a.x) (v:=p.y-a.y) (by omega) (by omega)
 have k2:=x1cg (u:=b.y-a.y) (v:=p.x-a.x) (by omega) (by omega)
 have q5:w64 ((b.x-a.x)*(p.y-a.y))=(b.x-a.x)*(p.y-a.y):=x18i (by omega) (by omega)
 have q6:w64 ((b.y-a.y)*(p.x-a.x))=(b.y-a.y)*(p.x-a.x):=x18i (by omega) (by omega)
 have q7:w64 ((b.x-a.x)*(p.y-a.y)-(b.y-a.y)*(p.x-a.x))=crP a b p:=by rw[x18i (by omega) (by omega)];rfl
 have k:x17z (x180 (d+1)) x1a [.agg a.c,.agg b.c,.agg p.c] m=some (I (w64 (w64 (w64 (b.x-a.x)*w64 (p.y-a.y))-w64 (w64 (b.y-a.y)*w64 (p.x-a.x)))),m):=x195 rfl (x1ep (by kernel_rfl)) m
 rw[k,q1,q2,q3,q4,q5,q6,q7]
theorem w_rsign(d:Nat)(n:Int)(m:Mem):x17z (x180 (d+1)) x3e [I n] m=some (I (if n<0 then -1 else 1),m):=by
 refine x195 rfl ?_ m
 rw[x10z]
 unfold xcm xb1
 by_cases c:n<0
 .simp[mem0,c]
  exact RetF.st rfl rfl
 .simp[mem0,c]
  exact RetF.st rfl rfl
def M3(a b p:Pl)(u0 u1 u2:Nat):Mem:=(((⟨[],1⟩:Mem).new (0,0,u0) (.row a.c 0 false)).new (0,0+1,u1) (.row b.c 0 false)).new (0,0+2,u2) (.row p.c 0 false)
theorem M3_g{a b p:Pl}:(M3 a b p 3 4 5).get (0,0,3)=some (.row [I a.x,I a.y,I a.z] 0 false)/\(M3 a b p 3 4 5).get (0,1,4)=some (.row [I b.x,I b.y,I b.z] 0 false)/\(M3 a b p 3 4 5).get (0,2,5)=some (.row [I p.x,I p.y,I p.z] 0 false):=by
 unfold M3
 refine⟨by simp[Pl.c],by simp[Pl.c],by simp[Pl.c]⟩
theorem x1fu(d:Nat){a b p:Pl}(ha:InP a)(hb:InP b)(hp:InP p)(m:Mem):x17z (x180 (d+2)) x1b [.agg a.c,.agg b.c,.agg p.c] m=some (I (x18o a b p),m):=by
 have hc:=x1ft d ha hb hp
 refine x195 rfl ?_ m
 rw[x10y]
 unfold xcl xay
 obtain⟨g1,g2,g3⟩:=M3_g (a:=a) (b:=b) (p:=p)
 simp only[mem0,x19f,x19n,Pl.c,x1th,x1tv,x1bo,x1tm,x18m]
 rw[show((((⟨[],1⟩:Mem).new (0,0,3) (.row [I a.x,I a.y,I a.z] 0 false)).new (0,0+1,4) (.row [I b.x,I b.y,I b.z] 0 false)).new (0,0+2,5) (.row [I p.x,I p.y,I p.z] 0 false))=M3 a b p 3 4 5 from rfl]
 simp only[Pl.c]at hc
 simp only[x183 g1,x183 g2,x183 g3,x1sf,rd,x1so,x1sx,x1t7,x1t8,x1t2,x1sg,x1sn,x182,hc,x1a9]
 unfold x18o trP
 by_cases c:crP a b p=0
 .simp[hc,c]
  exact RetF.st rfl rfl
 .simp[hc,c,w_rsign]
  refine RetF.st rfl ?_
  split<;>split<;>first|rfl|omega|(split<;>first|rfl|omega)
theorem x1hj(d:Nat)(a b c:Int)(m:Mem):x17z (x180 (d+1)) xq [I a,I b,I c] m=some (B (decide (b<=a)&&decide (a<=c)),m):=by
 refine x195 rfl ?_ m
 rw[xmu]
 unfold x5r x5d
 by_cases h:b<=a
 .simp[mem0,h]
  exact RetF.st rfl rfl
 .simp[mem0,h]
  exact RetF.st rfl rfl
theorem min_if(a b:Int):(if b<a then b else a)=min a b:=by omega
theorem max_if(a b:Int):(if b > a then b else a)=max a b:=by omega
theorem w_on(d:Nat){a b p:Pl}(ha:InP a)(hb:InP b)(hp:InP p)(m:Mem):x17z (x180 (d+2)) x12 [.agg a.c,.agg b.c,.agg p.c] m=some (B (onP a b p),m):=by
 have hc:=x1ft d ha hb hp
 refine x195 rfl ?_ m
 rw[x10p]
 unfold xcc xal
 obtain⟨g1,g2,g3⟩:=M3_g (a:=a) (b:=b) (p:=p)
 simp only[mem0,x19f,x19n,Pl.c,x1th,x1tv,x1bo,x1tm,x18m]
 rw[show((((⟨[],1⟩:Mem).new (0,0,3) (.row [I a.x,I a.y,I a.z] 0 false)).new (0,0+1,4) (.row [I b.x,I b.y,I b.z] 0 false)).new (0,0+2,5) (.row [I p.x,I p.y,I p.z] 0 false))=M3 a b p 3 4 5 from rfl]
 simp only[Pl.c]at hc
 simp only[x183 g1,x183 g2,x183 g3,x1sf,rd,x1so,x1sx,x1t7,x1t8,x1t2,x1sg,x1sn,x182,hc,x1a9]
 unfold onP
 by_cases c:crP a b p=0
 .cases c2:(decide (min a.x b.x<=p.x)&&decide (p.x<=max a.x b.x))
  .simp[hc,g1,g2,g3,c,x183 g1,x183 g2,x183 g3,rd,min_if,max_if,x1hj,c2,-gt_iff_lt]
   exact RetF.st rfl rfl
  .simp[hc,g1,g2,g3,c,x183 g1,x183 g2,x183 g3,rd,min_if,max_if,x1hj,c2,-gt_iff_lt]
   exact RetF.st rfl rfl
 .simp[hc,c]
  exact RetF.st rfl rfl
theorem w_fold(d:Nat){t a b:Pl}(ht:InP t)(ha:InP a)(hb:InP b)(m:Mem):x17z (x180 (d+2)) x39 [.agg t.c,.agg a.c,.agg b.c] m=some (B (x1dp t a b),m):=by
 have hc:=x1ft d ht ha hb
 obtain⟨a1,a2⟩:=ha
 obtain⟨b1,b2⟩:=hb
 obtain⟨p1,p2⟩:=ht
 have q1:w64 (a.x-t.x)=a.x-t.x:=x18i (by omega) (by omega)
 have q2:w64 (a.y-t.y)=a.y-t.y:=x18i (by omega) (by omega)
 have q3:w64 (b.x-t.x)=b.x-t.x:=x18i (by omega) (by omega)
 have q4:w64 (b.y-t.y)=b.y-t.y:=x18i (by omega) (by omega)
 have k1:=x1cg (u:=a.x-t.x) (v:=b.x-t.x) (by omega) (by omega)
 have k2:=x1cg (u:=a.y-t.y) (v:=b.y-t.y) (by omega) (by omega)
 have q5:w64 ((a.x-t.x)*(b.x-t.x))=(a.x-t.x)*(b.x-t.x):=x18i (by omega) (by omega)
 have q6:w64 ((a.y-t.y)*(b.y-t.y))=(a.y-t.y)*(b.y-t.y):=x18i (by omega) (by omega)
 have q7:w64 ((a.x-t.x)*(b.x-t.x)+(a.y-t.y)*(b.y-t.y))=dotP a b t:=by rw[x18i (by omega) (by omega)];rfl
 refine x195 rfl ?_ m
 rw[x10u]
 unfold xch xat
 obtain⟨g1,g2,g3⟩:=M3_g (a:=t) (b:=a) (p:=b)
 simp only[mem0,x19f,x19n,Pl.c,x1th,x1tv,x1bo,x1tm,x18m]
 rw[show((((⟨[],1⟩:Mem).new (0,0,3) (.row [I t.x,I t.y,I t.z] 0 false)).new (0,0+1,4) (.row [I a.x,I a.y,I a.z] 0 false)).new (0,0+2,5) (.row [I b.x,I b.y,I b.z] 0 false))=M3 t a b 3 4 5 from rfl]
 simp only[Pl.c]at hc
 simp only[x183 g1,x183 g2,x183 g3,x1sf,rd,x1so,x1sx,x1t7,x1t8,x1t2,x1sg,x1sn,x182,hc,x1a9]
 unfold x1dp
 by_cases c:crP t a b=0
 .simp[hc,g1,g2,g3,c,x183 g1,x183 g2,x183 g3,rd,q1,q2,q3,q4,q5,q6,q7]
  exact RetF.st rfl rfl
 .simp[hc,c]
  exact RetF.st rfl rfl
theorem w_meet(d:Nat){a b p q:Pl}(ha:InP a)(hb:InP b)(hp:InP p)(hq:InP q)(m:Mem):x17z (x180 (d+3)) x3a [.agg a.c,.agg b.c,.agg p.c,.agg q.c] m=some (B (x1bp a b p q),m):=by
 have t1:=x1fu d ha hb hp
 have t2:=x1fu d ha hb hq
 have t3:=x1fu d hp hq ha
 have t4:=x1fu d hp hq hb
 have h1:=w_on d ha hb hp
 have h2:=w_on d ha hb hq
 have h3:=w_on d hp hq ha
 have h4:=w_on d hp hq hb
 have tb:∀a b p q:Pl,w64 (x18o a b p*x18o a b q)=x18o a b p*x18o a b q:=λa b p q=>by
  unfold x18o
  rcases x1dr (crP a b p)with e|e|e<;>rcases x1dr (crP a b q)with e2|e2|e2<;>rw[e,e2]<;>rfl
 have tb2:w64 (x18o p q a*x18o p q b)=x18o p q a*x18o p q b:=tb p q a b
 refine x195 rfl ?_ m
 rw[x10v]
 unfold xci xau
 obtain⟨M,hM⟩:∃M:Mem,M=((((⟨[],1⟩:Mem).new (0,0,4) (.row [I a.x,I a.y,I a.z] 0 false)).new (0,0+1,5) (.row [I b.x,I b.y,I b.z] 0 false)).new (0,0+2,6) (.row [I p.x,I p.y,I p.z] 0 false)).new (0,0+3,7) (.row [I q.x,I q.y,I q.z] 0 false):=⟨_,rfl⟩
 have g1:M.get (0,0,4)=some (.row [I a.x,I a.y,I a.z] 0 false):=by rw[hM];simp
 have g2:M.get (0,1,5)=some (.row [I b.x,I b.y,I b.z] 0 false):=by rw[hM];simp
 have g3:M.get (0,2,6)=some (.row [I p.x,I p.y,I p.z] 0 false):=by rw[hM];simp
 have g4:M.get (0,3,7)=some (.row [I q.x,I q.y,I q.z] 0 false):=by rw[hM];simp
 have hn:M.next=1:=by rw[hM];rfl
 simp only[Pl.c]at t1 t2 t3 t4 h1 h2 h3 h4
 simp only[mem0,x19f,x19n,Pl.c,x1th,x1tv,x1bo,x1tm,x18m]
 rw[<-hM]
 simp only[x183 g1,x183 g2,x183 g3,x183 g4,x1sf,rd,x1so,x1sx,x1t7,x1t8,x1t2,x1sg,x1sn,x182,h1]
 unfold x1bp
 cases x1:onP a b p
 .cases x2:onP a b q
  .cases x3:onP p q a
   .cases x4:onP p q b
    .by_cases c:x18o a b p*x18o a b q<0
     .simp[x1,x2,x3,x4,h1,g1,g2,g3,g4,x183 g1,x183 g2,x183 g3,x183 g4,rd,h2,h3,h4,t1,t2,t3,t4,tb,c,cAp,tR,mkM,hn,show Nat.blt 0 1=true from rfl]
      exact RetF.st rfl rfl
     .simp[x1,x2,x3,x4,h1,g1,g2,g3,g4,x183 g1,x183 g2,x183 g3,x183 g4,rd,h2,h3,h4,t1,t2,tb,c,cAp,tR,mkM,hn,show Nat.blt 0 1=true from rfl]
      exact RetF.st rfl rfl
    .simp[x1,x2,x3,x4,h1,g1,g2,g3,g4,x183 g1,x183 g2,x183 g3,x183 g4,rd,h2,h3,h4]
     exact RetF.st rfl rfl
   .simp[x1,x2,x3,h1,g1,g2,g3,g4,x183 g1,x183 g2,x183 g3,x183 g4,rd,h2,h3]
    exact RetF.st rfl rfl
  .simp[x1,x2,h1,g1,g2,g3,g4,x183 g1,x183 g2,x183 g3,x183 g4,rd,h2]
   exact RetF.st rfl rfl
 .simp[x1,h1]
  exact RetF.st rfl rfl
def isPl(p:Pl):Bool:=(decide (-100000000<=p.x)&&decide (p.x<=100000000))&&(decide (-100000000<=p.y)&&decide (p.y<=100000000))&&(decide (-100000000<=p.z)&&decide (p.z<=100000000))
theorem x1ch{p:Pl}(h:isPl p=true):InP p:=by
 unfold isPl at h
 simp only[x1sl,x1tt]at h
 exact⟨h.1.1,h.1.2⟩
theorem x1fv(d:Nat)(n:Int)(m:Mem):x17z (x180 (d+2)) x1q [I n] m=some (B (decide (-100000000<=n)&&decide (n<=100000000)),m):=by
 refine x195 rfl ?_ m
 rw[x10w]
 unfold xcj xav
 simp[mem0,x1hj]
 exact RetF.st rfl rfl
theorem x1kc(d:Nat)(p:Pl)(m:Mem):x17z (x180 (d+3)) x28 [.agg p.c] m=some (B (isPl p),m):=by
 refine x195 rfl ?_ m
 rw[x10o]
 unfold xcb xak
 obtain⟨M,hM⟩:∃M:Mem,M=((⟨[],1⟩:Mem).new (0,0,1) (.row [I p.x,I p.y,I p.z] 0 false)):=⟨_,rfl⟩
 have g:M.get (0,0,1)=some (.row [I p.x,I p.y,I p.z] 0 false):=by rw[hM];simp
 simp only[mem0,x19f,x19n,Pl.c,x1th,x1tv,x1bo,x1tm,x18m]
 rw[<-hM]
 simp only[x18g,x183 g,x1sf,rd,x182,x1fv,List.head?_cons]
 unfold isPl
 cases x1:(decide (-100000000<=p.x)&&decide (p.x<=100000000))
 .simp[x1fv,x1]
  exact RetF.st rfl rfl
 .cases x2:(decide (-100000000<=p.y)&&decide (p.y<=100000000))
  .simp[g,rd,x1fv,x1,x2]
   exact RetF.st rfl rfl
  .simp[g,rd,x1fv,x1,x2]
   exact RetF.st rfl rfl
theorem w_gwithin(d:Nat)(a b c:Int)(m:Mem):x17z (x180 (d+1)) x3d [I a,I b,I c] m=some (B (decide (b<=a)&&decide (a<=c)),m):=by
 refine x195 rfl ?_ m
 rw[x10x]
 unfold xck xax
 by_cases h:b<=a
 .simp[mem0,h]
  exact RetF.st rfl rfl
 .simp[mem0,h]
  exact RetF.st rfl rfl
theorem l_gall(d:Nat)(hs:FHs)(u:Nat)(lo hi:Int){a:AV}{l:List Int}(h:Sl intE a l)(hl:l.length<=1000):∀(suf:List Int) (k j:Nat) (m:Mem) (fc:Nat),l.drop k=suf->suf.length<j ->
 x47 (x180 (d+1)) hs u j (I lo) (I hi) a (I l.length) (I k) m fc=some (B (suf.all λx=>decide (lo<=x)&&decide (x<=hi)),m):=by
 intro suf
 induction suf with
 |nil=>
  intro k j m fc hd hj
  obtain⟨j,rfl⟩:∃i,j=i+1:=⟨j-1,by simp at hj;omega⟩
  have hk:¬((k:Int)<(l.length:Int)):=by have:=x1t3.mp hd;omega
  simp only[x47]
  unfold xao xfs
  simp[hk]
 |cons e r ih=>
  intro k j m fc hd hj
  obtain⟨j,rfl⟩:∃i,j=i+1:=⟨j-1,by simp at hj;omega⟩
  obtain⟨hk,he,hd1⟩:=x19i hd
  have hk':(k:Int)<(l.length:Int):=by omega
  have ix:=h.ix x1ek hk
  have ld:∀m,sLd false 1 (.plit ((l.drop k).flatMap intE)) m=some (I e):=λm=>by
   rw[x19h hk,x1st,he];rfl
  have hw:w64 ((k:Int)+1)=((k+1:Nat):Int):=by rw[x18i (by omega) (by omega)];omega
  simp only[x47]
  unfold xao
  simp only[x18k,hk',x1si,x182,x18a,ix,ld,w_gwithin,x19y]
  rw[x1th]
  cases hc:(decide (lo<=e)&&decide (e<=hi))
  .simp
  .simp only[x1sr,x18b,x18y,hw,x182,x1t4]
   exact ih (k+1) j m _ hd1 (by simp at hj;omega)
theorem x1kd(d:Nat)(p:Pl)(m:Mem):x17z (x180 (d+3)) x25 [.agg p.c] m=some (I (if isPl p=true then 0 else 2),m):=by
 refine x195 rfl ?_ m
 rw[x10f]
 unfold xc2 xa3
 obtain⟨M,hM⟩:∃M:Mem,M=((⟨[],1⟩:Mem).new (0,0,1) (.row [I p.x,I p.y,I p.z] 0 false)):=⟨_,rfl⟩
 have g:M.get (0,0,1)=some (.row [I p.x,I p.y,I p.z] 0 false):=by rw[hM];simp
 simp only[mem0,x19f,x19n,Pl.c,x1th,x1tv,x1bo,x1tm,x18m]
 rw[<-hM]
 have hz:x1a0=[I 0]:=by kernel_rfl
 have hlit:∀{R:Type} (x y z:Int) (id:Id) (m:Mem) (q:AV->Mem->Option R),x18l x1a0 [(0,1,I x),(1,1,I y),(2,1,I z)] 3 1 id m q=q (.slit [I x,I y,I z] 3 true) m:=λx y z id m q=>by
  rw[hz]
  simp[x18l,x1ao,x19d,x1ux,x18v]
 have hall:∀m:Mem,x17z (x180 (d+2)) x36 [I (-100000000),I 100000000,.slit [I p.x,I p.y,I p.z] 3 true] m=some (B ([p.x,p.y,p.z].all λx=>decide (-100000000<=x)&&decide (x<=100000000)),m):=λm=>by
  refine x195 rfl ?_ m
  rw[x10q]
  unfold xcd xap xft
  have h3:Sl intE (.slit [I p.x,I p.y,I p.z] 3 true) [p.x,p.y,p.z]:=Or.inr ⟨true,rfl⟩
  have:=l_gall d [] 0 (-100000000) 100000000 h3 (by simp) [p.x,p.y,p.z] 0 NN ⟨[],1⟩ (0+1+3) rfl (by rw[x197];simp)
  simp only[mem0,h3.len u_ints,x182]
  rw[show I ((0:Nat):Int)=I 0 from rfl]at this
  rw[this]
  exact RetF.st rfl rfl
 simp only[x18g,x183 g,x1sf,x1sj,x1sg,rd,x182,List.head?_cons,hlit,hall,x19y,x1sw,x1sp]
 have e:([p.x,p.y,p.z].all λx=>decide (-100000000<=x)&&decide (x<=100000000))=isPl p:=by
  unfold isPl
  simp[Bool.and_assoc]
 rw[e]
 cases isPl p
 .simp
  exact RetF.st rfl rfl
 .simp
  exact RetF.st rfl rfl
end Go.Ix
