import Derived.Test.YtjdlceelbnaneaaWg5
import Derived.Test.YtjdlceelbnaneaaWg1
import Derived.Test.YtjdlceelbnaneaaWg0
import Derived.ProofKit
set_option linter.unusedSimpArgs false
set_option linter.unusedVariables false
namespace Go.Ix
open Go.Proofs
theorem z_2int:x1r=[I 0,I 0]:=by kernel_rfl
theorem Edge.still1(e:Edge):e.c.all Go.Ix.still1=true:=rfl
abbrev Pr:=Int×Int
def Pr.c(x:Pr):List AV:=[I x.1,I x.2]
theorem Pr.len(x:Pr):(Pr.c x).length=2:=rfl
theorem Pr.still(x:Pr):(Pr.c x).all Go.Ix.still1=true:=rfl
def dotW(a b c x y z:Int):Int:=aW (aW (mW a x) (mW b y)) (mW c z)
theorem e_shat(d:Nat)(f:Aff)(x y:Int):((x80 (d+2) [] x5f [.agg f.c,I x,I y] mem0).bind λp=>Go.Ix.frz p.2.get deep p.1)=some (.agg [I (dotW f.l0 f.l1 f.l2 1 x y),I (dotW f.s0 f.s1 f.s2 1 x y)]):=by kernel_rfl
def tm(a b c x y:Int):Int:=a+b*x+c*y
theorem tm_bd{a b c x y:Int}(ha:bd a 1000000000000000)(hb:bd b 1000000000000000)(hc:bd c 1000000000000000)(hx:bd x 63)(hy:bd y 63):bd (tm a b c x y) 127000000000000000:=
 ((ha.add (hb.mul hx)).add (hc.mul hy)).mono (by omega)
theorem dotW_tm{a b c x y:Int}(h:bd (tm a b c x y) 127000000000000000):dotW a b c 1 x y=tm a b c x y:=by
 refine aW_of ?_ (h.mono (by omega))
 exact(cg_a (cg_a (cg_m (.refl a) (.refl 1)) (cg_m (.refl b) (.refl x))) (cg_m (.refl c) (.refl y))).trans (by unfold tm;omega)
section
variable{f:Aff}{x y:Int}
theorem AffIn.tl(h:AffIn f)(hx:bd x 63)(hy:bd y 63):bd (tm f.l0 f.l1 f.l2 x y) 127000000000000000:=tm_bd h.l0 h.l1 h.l2 hx hy
theorem AffIn.ts(h:AffIn f)(hx:bd x 63)(hy:bd y 63):bd (tm f.s0 f.s1 f.s2 x y) 127000000000000000:=tm_bd h.s0 h.s1 h.s2 hx hy
theorem w_shat(d:Nat)(h:AffIn f)(hx:bd x 63)(hy:bd y 63)(m:Mem):x81 (x80 (d+2)) x5f [.agg f.c,I x,I y] m=some (.agg [I (tm f.l0 f.l1 f.l2 x y),I (tm f.s0 f.s1 f.s2 x y)],m):=by
 have e:=e_shat d f x y
 rw[dotW_tm (h.tl hx hy),dotW_tm (h.ts hx hy)]at e
 exact x8c rfl (retF_e e) m
def shL(f:Aff)(x y:Int):Int:=(32*tm f.l0 f.l1 f.l2 x y+f.den) / (2*f.den)
def shS(f:Aff)(x y:Int):Int:=(32*tm f.s0 f.s1 f.s2 x y+f.den) / (2*f.den)
theorem z_shift3:x5g=[I 0,I 0,I 0,I 0,I 0,I 0,I 0]:=by kernel_rfl
theorem w_parts3(d:Nat)(h:AffIn f)(hx:bd x 63)(hy:bd y 63)(m:Mem):x81 (x80 (d+3)) x1a [.agg f.c,I x,I y] m=some (.agg [I (shL f x y),I (shS f x y)],m):=by
 refine x8c rfl ?_ m
 have h1:=h.d0
 have h2:=h.d1
 have t1:=h.tl hx hy
 have t2:=h.ts hx hy
 have a1:=w_shat (d+0) h hx hy
 have b1:bd (16*tm f.l0 f.l1 f.l2 x y) 4000000000000000000:=by unfold bd at *;omega
 have b2:bd (16*tm f.s0 f.s1 f.s2 x y) 4000000000000000000:=by unfold bd at *;omega
 have n1:=xfl d h1 h2 b1
 have n2:=xfl d h1 h2 b2
 rw[x6a]
 unfold x4c x37
 unfold bd at b1 b2
 simp only[Aff.c]at a1
 simp[mem0,Aff.c,z_2int]
 simp[a1]
 simp(disch:=omega) [sIxA,asI]
 simp(disch:=omega) [n1,n2,build_F]
 refine RetF.st (by simp) ?_
 simp only[shL,shS]
 rw[show(2:Int)*(16*tm f.l0 f.l1 f.l2 x y)=32*tm f.l0 f.l1 f.l2 x y by omega,show(2:Int)*(16*tm f.s0 f.s1 f.s2 x y)=32*tm f.s0 f.s1 f.s2 x y by omega]
 rfl
end
theorem InB.get{l:List Scene}(h:InB l){k:Nat}(hk:k<l.length):(0<=l[k].day/\l[k].day<=100000)/\(-100000<=l[k].bl/\l[k].bl<=100000):=h _ (xm7 hk)
def Pq.v(p:Pq):Value:=.agg [.int .i64 p.a,.int .i64 p.b].toArray
end Go.Ix
