import Derived.Test.YtjdlceelbnaneaaWg6
import Derived.Test.YtjdlceelbnaneaaWg5
import Derived.Test.YtjdlceelbnaneaaWg2
import Derived.Test.YtjdlceelbnaneaaWg1
import Derived.Test.YtjdlceelbnaneaaWBase
import Derived.ProofKit
set_option linter.unusedSimpArgs false
set_option linter.unusedVariables false
namespace Go.Ix
open Go.Proofs
abbrev Pr:=Int×Int
def Pr.c(x:Pr):List AV:=[I x.1,I x.2]
theorem Pr.len(x:Pr):(Pr.c x).length=2:=rfl
theorem Pr.still(x:Pr):(Pr.c x).all Go.Ix.still1=true:=rfl
def dotW(a b c x y z:Int):Int:=aW (aW (mW a x) (mW b y)) (mW c z)
theorem e_dot3(d:Nat)(a b c x y z:Int):((x7q (d+1) [] x5o [.agg [I a,I b,I c],.agg [I x,I y,I z]] mem0).bind λp=>Go.Ix.frz p.2.get deep p.1)=some (I (dotW a b c x y z)):=by kernel_rfl
theorem e_shat(d:Nat)(f:Aff)(x y:Int):((x7q (d+2) [] x4y [.agg f.c,I x,I y] mem0).bind λp=>Go.Ix.frz p.2.get deep p.1)=some (.agg [I (dotW f.l0 f.l1 f.l2 1 x y),I (dotW f.s0 f.s1 f.s2 1 x y)]):=by kernel_rfl
theorem e_term3(d:Nat)(a b c x y:Int):((x7q (d+1) [] x30 [.agg [I a,I b,I c],I x,I y] mem0).bind λp=>Go.Ix.frz p.2.get deep p.1)=some (I (aW (aW a (mW b x)) (mW c y))):=by kernel_rfl
def tm(a b c x y:Int):Int:=a+b*x+c*y
theorem tm_bd{a b c x y:Int}(ha:bd a 1000000000000000)(hb:bd b 1000000000000000)(hc:bd c 1000000000000000)(hx:bd x 63)(hy:bd y 63):bd (tm a b c x y) 127000000000000000:=
 ((ha.add (hb.mul hx)).add (hc.mul hy)).mono (by omega)
theorem dotW_tm{a b c x y:Int}(h:bd (tm a b c x y) 127000000000000000):dotW a b c 1 x y=tm a b c x y:=by
 refine aW_of ?_ (h.mono (by omega))
 exact(cg_a (cg_a (cg_m (.refl a) (.refl 1)) (cg_m (.refl b) (.refl x))) (cg_m (.refl c) (.refl y))).trans (by unfold tm;omega)
theorem termW_tm{a b c x y:Int}(h:bd (tm a b c x y) 127000000000000000):aW (aW a (mW b x)) (mW c y)=tm a b c x y:=
 aW_of (cg_a (cg_a (.refl a) (cg_m (.refl b) (.refl x))) (cg_m (.refl c) (.refl y))) (h.mono (by omega))
section
variable{f:Aff}{x y:Int}
theorem AffIn.tl(h:AffIn f)(hx:bd x 63)(hy:bd y 63):bd (tm f.l0 f.l1 f.l2 x y) 127000000000000000:=tm_bd h.l0 h.l1 h.l2 hx hy
theorem AffIn.ts(h:AffIn f)(hx:bd x 63)(hy:bd y 63):bd (tm f.s0 f.s1 f.s2 x y) 127000000000000000:=tm_bd h.s0 h.s1 h.s2 hx hy
theorem w_shat(d:Nat)(h:AffIn f)(hx:bd x 63)(hy:bd y 63)(m:Mem):x7s (x7q (d+2)) x4y [.agg f.c,I x,I y] m=some (.agg [I (tm f.l0 f.l1 f.l2 x y),I (tm f.s0 f.s1 f.s2 x y)],m):=by
 have e:=e_shat d f x y
 rw[dotW_tm (h.tl hx hy),dotW_tm (h.ts hx hy)]at e
 exact x87 rfl (x9d e) m
theorem w_term3(d:Nat){a b c:Int}(h:bd (tm a b c x y) 127000000000000000)(m:Mem):x7s (x7q (d+1)) x30 [.agg [I a,I b,I c],I x,I y] m=some (I (tm a b c x y),m):=by
 have e:=e_term3 d a b c x y
 rw[termW_tm h]at e
 exact x87 rfl (x9d e) m
theorem z_shift3:x4x=[I 0,I 0,I 0,I 0,I 0,I 0,I 0]:=by kernel_rfl
theorem xja(d:Nat)(f:Aff)(m:Mem):x7s (x7q (d+2)) x18 [.agg f.c] m=some (I (chkA f),m):=by
 refine x87 rfl ?_ m
 rw[x69]
 unfold x44 x2r
 simp[mem0,Aff.c,x9w]
 unfold chkA
 cases c0:wi f.den 1 1000000000000
 .simp;exact RetF.st rfl rfl
 simp
 unfold x4r
 obtain⟨NM,hNM⟩:∃NM,NN=NM+4:=⟨NN-4,by have:=x8k;omega⟩
 rw[hNM]
 simp[x2q,x4q,sIxA,asI,x9w]
 cases c1:inT f.l0
 .unfold inT at c1;simp[c1];exact RetF.st rfl rfl
 unfold inT at c1;simp[c1,x9w]
 cases c4:inT f.s0
 .unfold inT at c4;simp[c4]
  refine RetF.st rfl ?_
  cases inT f.l1<;>cases inT f.l2<;>rfl
 unfold inT at c4;simp[c4]
 cases c2:inT f.l1
 .unfold inT at c2;simp[c2];exact RetF.st rfl rfl
 unfold inT at c2;simp[c2,x9w]
 cases c5:inT f.s1
 .unfold inT at c5;simp[c5]
  refine RetF.st rfl ?_
  cases inT f.l2<;>rfl
 unfold inT at c5;simp[c5]
 cases c3:inT f.l2
 .unfold inT at c3;simp[c3];exact RetF.st rfl rfl
 unfold inT at c3;simp[c3,x9w]
 cases c6:inT f.s2
 .unfold inT at c6;simp[c6];exact RetF.st rfl rfl
 unfold inT at c6;simp[c6,x4p]
 exact RetF.st rfl rfl
end
theorem InB.get{l:List Scene}(h:InB l){k:Nat}(hk:k<l.length):(0<=l[k].day/\l[k].day<=100000)/\(-100000<=l[k].bl/\l[k].bl<=100000):=h _ (xky hk)
def Pq.v(p:Pq):Value:=.agg [.int .i64 p.a,.int .i64 p.b].toArray
end Go.Ix
