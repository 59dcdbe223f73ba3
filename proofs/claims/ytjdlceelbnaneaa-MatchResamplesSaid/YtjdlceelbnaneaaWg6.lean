import Derived.Test.YtjdlceelbnaneaaWg5
import Derived.Test.YtjdlceelbnaneaaWg1
import Derived.Test.YtjdlceelbnaneaaWg0
import Derived.ProofKit
set_option linter.unusedSimpArgs false
set_option linter.unusedVariables false
namespace Go.Ix
open Go.Proofs
theorem xg5:xj=[I 0,I 0]:=by kernel_rfl
theorem Edge.still1(e:Edge):e.c.all Go.Ix.still1=true:=rfl
abbrev Pr:=Int×Int
def Pr.c(x:Pr):List AV:=[I x.1,I x.2]
theorem Pr.len(x:Pr):(Pr.c x).length=2:=rfl
theorem Pr.still(x:Pr):(Pr.c x).all Go.Ix.still1=true:=rfl
def dotW(a b c x y z:Int):Int:=aW (aW (mW a x) (mW b y)) (mW c z)
theorem e_shat(d:Nat)(f:Aff)(x y:Int):((x9u (d+2) [] x6s [.agg f.c,I x,I y] mem0).bind λp=>Go.Ix.frz p.2.get deep p.1)=some (.agg [I (dotW f.l0 f.l1 f.l2 1 x y),I (dotW f.s0 f.s1 f.s2 1 x y)]):=by kernel_rfl
theorem e_term3(d:Nat)(a b c x y:Int):((x9u (d+1) [] x3k [.agg [I a,I b,I c],I x,I y] mem0).bind λp=>Go.Ix.frz p.2.get deep p.1)=some (I (aW (aW a (mW b x)) (mW c y))):=by kernel_rfl
def tm(a b c x y:Int):Int:=a+b*x+c*y
theorem tm_bd{a b c x y:Int}(ha:bd a 1000000000000000)(hb:bd b 1000000000000000)(hc:bd c 1000000000000000)(hx:bd x 63)(hy:bd y 63):bd (tm a b c x y) 127000000000000000:=
 ((ha.add (hb.mul hx)).add (hc.mul hy)).mono (by omega)
theorem dotW_tm{a b c x y:Int}(h:bd (tm a b c x y) 127000000000000000):dotW a b c 1 x y=tm a b c x y:=by
 refine aW_of ?_ (h.mono (by omega))
 exact(cg_a (cg_a (cg_m (.refl a) (.refl 1)) (cg_m (.refl b) (.refl x))) (cg_m (.refl c) (.refl y))).trans (by unfold tm;omega)
theorem termW_tm{a b c x y:Int}(h:bd (tm a b c x y) 127000000000000000):aW (aW a (mW b x)) (mW c y)=tm a b c x y:=
 aW_of (cg_a (cg_a (.refl a) (cg_m (.refl b) (.refl x))) (cg_m (.refl c) (.refl y))) (h.mono (by omega))
section
variable{f:Aff}{x y:Int}
theorem AffIn.tl(h:AffIn f)(hx:bd x 63)(hy:bd y 63):bd (tm f.l0 f.l1 f.l2 x y) 127000000000000000:=tm_bd h.l0 h.l1 h.l2 hx hy
theorem AffIn.ts(h:AffIn f)(hx:bd x 63)(hy:bd y 63):bd (tm f.s0 f.s1 f.s2 x y) 127000000000000000:=tm_bd h.s0 h.s1 h.s2 hx hy
theorem w_shat(d:Nat)(h:AffIn f)(hx:bd x 63)(hy:bd y 63)(m:Mem):x9v (x9u (d+2)) x6s [.agg f.c,I x,I y] m=some (.agg [I (tm f.l0 f.l1 f.l2 x y),I (tm f.s0 f.s1 f.s2 x y)],m):=by
 have e:=e_shat d f x y
 rw[dotW_tm (h.tl hx hy),dotW_tm (h.ts hx hy)]at e
 exact xa1 rfl (xeu e) m
theorem w_term3(d:Nat){a b c:Int}(h:bd (tm a b c x y) 127000000000000000)(m:Mem):x9v (x9u (d+1)) x3k [.agg [I a,I b,I c],I x,I y] m=some (I (tm a b c x y),m):=by
 have e:=e_term3 d a b c x y
 rw[termW_tm h]at e
 exact xa1 rfl (xeu e) m
def shL(f:Aff)(x y:Int):Int:=(32*tm f.l0 f.l1 f.l2 x y+f.den) / (2*f.den)
def shS(f:Aff)(x y:Int):Int:=(32*tm f.s0 f.s1 f.s2 x y+f.den) / (2*f.den)
theorem z_shift3:x6t=[I 0,I 0,I 0,I 0,I 0,I 0,I 0]:=by kernel_rfl
theorem w_parts3(d:Nat)(h:AffIn f)(hx:bd x 63)(hy:bd y 63)(m:Mem):x9v (x9u (d+3)) x1r [.agg f.c,I x,I y] m=some (.agg [I (shL f x y),I (shS f x y)],m):=by
 refine xa1 rfl ?_ m
 have h1:=h.d0
 have h2:=h.d1
 have t1:=h.tl hx hy
 have t2:=h.ts hx hy
 have a1:=w_shat (d+0) h hx hy
 have b1:bd (16*tm f.l0 f.l1 f.l2 x y) 4000000000000000000:=by unfold bd at *;omega
 have b2:bd (16*tm f.s0 f.s1 f.s2 x y) 4000000000000000000:=by unfold bd at *;omega
 have n1:=xhn d h1 h2 b1
 have n2:=xhn d h1 h2 b2
 rw[x7x]
 unfold x5l x47
 unfold bd at b1 b2
 simp only[Aff.c]at a1
 simp[mem0,Aff.c,xg5]
 simp[a1]
 simp(disch:=omega) [sIxA,asI]
 simp(disch:=omega) [n1,n2,xep]
 refine RetF.st (by simp) ?_
 simp only[shL,shS]
 rw[show(2:Int)*(16*tm f.l0 f.l1 f.l2 x y)=32*tm f.l0 f.l1 f.l2 x y by omega,show(2:Int)*(16*tm f.s0 f.s1 f.s2 x y)=32*tm f.s0 f.s1 f.s2 x y by omega]
 rfl
theorem xly(d:Nat)(f:Aff)(m:Mem):x9v (x9u (d+2)) x19 [.agg f.c] m=some (I (chkA f),m):=by
 refine xa1 rfl ?_ m
 rw[x78]
 unfold x4w x30
 simp[mem0,Aff.c,xav]
 unfold chkA
 cases c0:wi f.den 1 1000000000000
 .simp;exact RetF.st rfl rfl
 simp
 unfold x66
 obtain⟨NM,hNM⟩:∃NM,NN=NM+4:=⟨NN-4,by have:=xb6;omega⟩
 rw[hNM]
 simp[x2z,x65,sIxA,asI,xav]
 cases c1:inT f.l0
 .unfold inT at c1;simp[c1];exact RetF.st rfl rfl
 unfold inT at c1;simp[c1,xav]
 cases c4:inT f.s0
 .unfold inT at c4;simp[c4]
  refine RetF.st rfl ?_
  cases inT f.l1<;>cases inT f.l2<;>rfl
 unfold inT at c4;simp[c4]
 cases c2:inT f.l1
 .unfold inT at c2;simp[c2];exact RetF.st rfl rfl
 unfold inT at c2;simp[c2,xav]
 cases c5:inT f.s1
 .unfold inT at c5;simp[c5]
  refine RetF.st rfl ?_
  cases inT f.l2<;>rfl
 unfold inT at c5;simp[c5]
 cases c3:inT f.l2
 .unfold inT at c3;simp[c3];exact RetF.st rfl rfl
 unfold inT at c3;simp[c3,xav]
 cases c6:inT f.s2
 .unfold inT at c6;simp[c6];exact RetF.st rfl rfl
 unfold inT at c6;simp[c6,x64]
 exact RetF.st rfl rfl
theorem xlz(d:Nat)(h:AffIn f)(hx:bd x 63)(hy:bd y 63)(m:Mem):x9v (x9u (d+2)) x1h [.agg f.c,I x,I y] m=some (.agg [I (shL f x y),I (shS f x y)],m):=by
 refine xa1 rfl ?_ m
 have h1:=h.d0
 have h2:=h.d1
 have t1:=h.tl hx hy
 have t2:=h.ts hx hy
 have a1:=w_term3 d t1
 have a2:=w_term3 d t2
 have b1:=xew d (x:=32*tm f.l0 f.l1 f.l2 x y+f.den) (y:=2*f.den) (by omega) (by unfold bd at *;omega)
 have b2:=xew d (x:=32*tm f.s0 f.s1 f.s2 x y+f.den) (y:=2*f.den) (by omega) (by unfold bd at *;omega)
 unfold bd at t1 t2
 rw[x7l]
 unfold x59 x3j
 simp(disch:=omega) [mem0,Aff.c,xg5,a1,a2,b1,b2,xep]
 exact RetF.st (by simp) rfl
end
theorem InB.get{l:List Scene}(h:InB l){k:Nat}(hk:k<l.length):(0<=l[k].day/\l[k].day<=100000)/\(-100000<=l[k].bl/\l[k].bl<=100000):=h _ (xol hk)
def Pq.v(p:Pq):Value:=.agg [.int .i64 p.a,.int .i64 p.b].toArray
end Go.Ix
