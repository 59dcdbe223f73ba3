import Derived.Test.YtjdlceelbnaneaaWg6
import Derived.Test.YtjdlceelbnaneaaWg5
import Derived.Test.YtjdlceelbnaneaaWg2
import Derived.Test.YtjdlceelbnaneaaWg1
import Derived.Test.YtjdlceelbnaneaaWBase
import Derived.ProofKit
set_option linter.unusedSimpArgs false
set_option linter.unusedVariables false
namespace Go.Ix
open Go.Proofs
abbrev Pr:=Int×Int
def Pr.c(x:Pr):List AV:=[I x.1,I x.2]
theorem Pr.len(x:Pr):(Pr.c x).length=2:=rfl
theorem Pr.still(x:Pr):(Pr.c x).all Go.Ix.still1=true:=rfl
def dotW(a b c x y z:Int):Int:=aW (aW (mW a x) (mW b y)) (mW c z)
theorem e_dot3(d:Nat)(a b c x y z:Int):((x59 (d+1) [] x3r [.agg [I a,I b,I c],.agg [I x,I y,I z]] mem0).bind λp=>Go.Ix.frz p.2.get deep p.1)=some (I (dotW a b c x y z)):=by kernel_rfl
def tm(a b c x y:Int):Int:=a+b*x+c*y
theorem tm_bd{a b c x y:Int}(ha:bd a 1000000000000000)(hb:bd b 1000000000000000)(hc:bd c 1000000000000000)(hx:bd x 63)(hy:bd y 63):bd (tm a b c x y) 127000000000000000:=
 ((ha.add (hb.mul hx)).add (hc.mul hy)).mono (by omega)
section
variable{f:Aff}{x y:Int}
theorem AffIn.ts(h:AffIn f)(hx:bd x 63)(hy:bd y 63):bd (tm f.s0 f.s1 f.s2 x y) 127000000000000000:=tm_bd h.s0 h.s1 h.s2 hx hy
theorem xgo(d:Nat)(f:Aff)(m:Mem):x5c (x59 (d+2)) xw [.agg f.c] m=some (I (chkA f),m):=by
 refine x5x rfl ?_ m
 rw[x48]
 unfold x2x x26
 simp[mem0,Aff.c,x6n]
 unfold chkA
 cases c0:wi f.den 1 1000000000000
 .simp;exact RetF.st rfl rfl
 simp
 unfold x3j
 obtain⟨NM,hNM⟩:∃NM,NN=NM+4:=⟨NN-4,by have:=x6l;omega⟩
 rw[hNM]
 simp[x25,x3i,sIxA,asI,x6n]
 cases c1:inT f.l0
 .unfold inT at c1;simp[c1];exact RetF.st rfl rfl
 unfold inT at c1;simp[c1,x6n]
 cases c4:inT f.s0
 .unfold inT at c4;simp[c4]
  refine RetF.st rfl ?_
  cases inT f.l1<;>cases inT f.l2<;>rfl
 unfold inT at c4;simp[c4]
 cases c2:inT f.l1
 .unfold inT at c2;simp[c2];exact RetF.st rfl rfl
 unfold inT at c2;simp[c2,x6n]
 cases c5:inT f.s1
 .unfold inT at c5;simp[c5]
  refine RetF.st rfl ?_
  cases inT f.l2<;>rfl
 unfold inT at c5;simp[c5]
 cases c3:inT f.l2
 .unfold inT at c3;simp[c3];exact RetF.st rfl rfl
 unfold inT at c3;simp[c3,x6n]
 cases c6:inT f.s2
 .unfold inT at c6;simp[c6];exact RetF.st rfl rfl
 unfold inT at c6;simp[c6,x3h]
 exact RetF.st rfl rfl
end
theorem InB.get{l:List Scene}(h:InB l){k:Nat}(hk:k<l.length):(0<=l[k].day/\l[k].day<=100000)/\(-100000<=l[k].bl/\l[k].bl<=100000):=h _ (xih hk)
def Pq.v(p:Pq):Value:=.agg [.int .i64 p.a,.int .i64 p.b].toArray
end Go.Ix
