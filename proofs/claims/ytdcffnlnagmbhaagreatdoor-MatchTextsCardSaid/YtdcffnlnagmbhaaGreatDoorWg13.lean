import Derived.Test.YtdcffnlnagmbhaaGreatDoorWg12
import Derived.Test.YtdcffnlnagmbhaaGreatDoorWg1
import Derived.ProofKit
import Derived.Test.YtdcffnlnagmbhaaGreatDoorWg0
import Derived.Test.YtdcffnlnagmbhaaGreatDoorWg9
import Derived.Test.YtdcffnlnagmbhaaGreatDoorWg10
set_option linter.unusedSimpArgs false
set_option linter.unusedVariables false
namespace Go.Ix
structure PtIn (x:Mp):Prop where
 l0:0<=x.ln
 l1:x.ln<=63
 s0:0<=x.sm
 s1:x.sm<=63
 b0:bd x.b0 8
 b1:bd x.b1 8
theorem PtIn.ln{x:Mp}(h:PtIn x):bd x.ln 63:=by have:=h.l0;have:=h.l1;unfold bd;omega
theorem PtIn.sm{x:Mp}(h:PtIn x):bd x.sm 63:=by have:=h.s0;have:=h.s1;unfold bd;omega
section
variable{l:List Mp}
end
open Go.Proofs
theorem retF_e{v:AV}{call:xpb}{f:FuncId}{l:List AV}(h:((call [] f l mem0).bind λp=>Go.Ix.frz p.2.get deep p.1)=some v):RetF (λa=>a=v) (call [] f l mem0):=by
 rw[x17u]at h
 obtain⟨⟨a,m'⟩,h1,h2⟩:=h
 exact⟨a,m',v,h1,h2,rfl⟩
def sW2(a b:Int):Int:=w64 (a-b)
structure Nm where
 a:Int
 b:Int
 c:Int
 d:Int
 e:Int
 f:Int
 g:Int
 h:Int
 i:Int
 x:Int
 y:Int
 z:Int
abbrev Nm.v(n:Nm):AV:=.agg [I n.a,I n.b,I n.c,I n.d,I n.e,I n.f,I n.g,I n.h,I n.i,I n.x,I n.y,I n.z]
structure Ep where
 day:Int
 bl:Int
 ph:Int
 mg:Int
def Ep.c(e:Ep):List AV:=[I e.day,I e.bl,I e.ph,I e.mg]
def Ep.r(d0:Int)(e:Ep):List AV:=[I (sW2 e.day d0),I e.bl,I 1]
def Ep.p(e:Ep):List AV:=[I e.ph]
theorem Ep.len(e:Ep):e.c.length=4:=rfl
theorem Ep.still(e:Ep):e.c.all still1=true:=rfl
def Cg(x y:Int):Prop:=∃k:Int,x=y+18446744073709551616*k
theorem Cg.refl(x:Int):Cg x x:=⟨0,by omega⟩
theorem w64_rng(n:Int):Cg (w64 n) n/\-9223372036854775808<=w64 n/\w64 n<=9223372036854775807:=by
 rw[xtl]
 have e:IntKind.i64.wrap n=if(n % 18446744073709551616) ≥ 9223372036854775808 then n % 18446744073709551616-18446744073709551616 else n % 18446744073709551616:=by
  show(if(true&&decide (n % (2 ^ 64:Int) ≥ (2 ^ 63:Int)))=true then n % (2 ^ 64:Int)-(2 ^ 64:Int)else n % (2 ^ 64:Int))=_
  simp
 rw[e]
 have h1:=Int.emod_nonneg n (show(18446744073709551616:Int)≠0 by omega)
 have h2:=Int.emod_lt_of_pos n (show(0:Int)<18446744073709551616 by omega)
 have h3:=Int.mul_ediv_add_emod n 18446744073709551616
 split
 .exact⟨⟨-(n / 18446744073709551616)-1,by omega⟩,by omega,by omega⟩
 .exact⟨⟨-(n / 18446744073709551616),by omega⟩,by omega,by omega⟩
theorem Cg.w{x y:Int}(h:Cg x y):Cg (w64 x) y:=by
 obtain⟨k,h⟩:=h
 obtain⟨⟨j,e⟩,-⟩:=w64_rng x
 exact⟨k+j,by rw[e,h];omega⟩
theorem Cg.add{a b x y:Int}(h:Cg a x)(k:Cg b y):Cg (a+b) (x+y):=by
 obtain⟨p,h⟩:=h
 obtain⟨q,k⟩:=k
 exact⟨p+q,by rw[h,k];omega⟩
theorem Cg.sub{a b x y:Int}(h:Cg a x)(k:Cg b y):Cg (a-b) (x-y):=by
 obtain⟨p,h⟩:=h
 obtain⟨q,k⟩:=k
 exact⟨p-q,by rw[h,k];omega⟩
theorem Cg.mul{a b x y:Int}(h:Cg a x)(k:Cg b y):Cg (a*b) (x*y):=by
 obtain⟨p,h⟩:=h
 obtain⟨q,k⟩:=k
 exact⟨x*q+p*y+18446744073709551616*(p*q),by rw[h,k];grind⟩
theorem Cg.fin{x y:Int}(h:Cg x y)(h1:bd x 9223372036854775807)(hb:bd y 9223372036854775807):x=y:=by
 obtain⟨k,h⟩:=h
 unfold bd at *
 omega
theorem Cg.trans{x y z:Int}(h:Cg x y)(e:y=z):Cg x z:=e▸h
theorem e_awake3:((xpc 30 [] x1r [] mem0).map (λp=>p.1))=some (B true):=by kernel_rfl
theorem w_awake3(m:Mem):xp9 (xpc 30) x1r [] m=some (B true,m):=by
 have h:=e_awake3
 rw[x16x]at h
 obtain⟨⟨r,m'⟩,h1,rfl⟩:=h
 exact call0 rfl h1 rfl
theorem xst(d:Nat)(a b c:Int)(m:Mem):xp9 (xpc (d+1)) xe [I a,I b,I c] m=some (B (wi a b c),m):=by
 refine call0 rfl (m':=⟨[],1⟩) ?_ rfl
 rw[xkr]
 unfold x6y x5o wi
 by_cases h:b<=a<;>by_cases h2:a<=c<;>simp[h,h2,mem0]
def inT(x:Int):Bool:=wi x (-1000000000000000) 1000000000000000
def chkA(f:Aff):Int:=bif !wi f.den 1 1000000000000 then 2 else bif !inT f.l0 then 2 else bif !inT f.l1 then 2 else bif !inT f.l2 then 2 else bif !inT f.s0 then 2 else bif !inT f.s1 then 2 else bif !inT f.s2 then 2 else 0
structure AffIn (f:Aff):Prop where
 d0:0<f.den
 d1:f.den<=1000000000000
 l0:bd f.l0 1000000000000000
 l1:bd f.l1 1000000000000000
 l2:bd f.l2 1000000000000000
 s0:bd f.s0 1000000000000000
 s1:bd f.s1 1000000000000000
 s2:bd f.s2 1000000000000000
theorem xum{x:Int}(h:inT x=true):bd x 1000000000000000:=wi_t h
theorem chkA_in{f:Aff}(h:chkA f=0):AffIn f:=by
 unfold chkA at h
 cases c0:wi f.den 1 1000000000000<;>simp[c0]at h
 cases c1:inT f.l0<;>simp[c1]at h
 cases c2:inT f.l1<;>simp[c2]at h
 cases c3:inT f.l2<;>simp[c3]at h
 cases c4:inT f.s0<;>simp[c4]at h
 cases c5:inT f.s1<;>simp[c5]at h
 cases c6:inT f.s2<;>simp[c6]at h
 have:=wi_t c0
 exact⟨by omega,by omega,xum c1,xum c2,xum c3,xum c4,xum c5,xum c6⟩
theorem x130(d:Nat)(f:Aff)(m:Mem):xp9 (xpc (d+2)) x1u [.agg f.c] m=some (I (chkA f),m):=by
 refine callV rfl ?_ m
 rw[xkn]
 unfold x6u x5i
 simp[mem0,Aff.c,xst]
 unfold chkA
 cases c0:wi f.den 1 1000000000000
 .simp;exact RetF.st rfl rfl
 simp
 unfold x8a
 obtain⟨NM,hNM⟩:∃NM,NN=NM+7:=⟨NN-7,by have:=xsd;omega⟩
 rw[hNM]
 simp[sSlA,asI,sApp,elems,sLen,xpt]
 have hx:∀(id:Id) (k:Int),0<=k->k<6->sIx 1 (.sref id 1 0 6 1 true) (I k)=some (.ptr id 1 (0+k.toNat*1)):=λid k h0 h1=>by
  simp[sIx,asI,h0,h1]
 simp[x5h,x89,sIx,asI,xst]
 cases c1:inT f.l0
 .unfold inT at c1;simp[c1];exact RetF.st rfl rfl
 unfold inT at c1;simp[c1]
 cases c2:inT f.l1
 .unfold inT at c2;simp[c2];exact RetF.st rfl rfl
 unfold inT at c2;simp[c2]
 cases c3:inT f.l2
 .unfold inT at c3;simp[c3];exact RetF.st rfl rfl
 unfold inT at c3;simp[c3]
 cases c4:inT f.s0
 .unfold inT at c4;simp[c4];exact RetF.st rfl rfl
 unfold inT at c4;simp[c4]
 cases c5:inT f.s1
 .unfold inT at c5;simp[c5];exact RetF.st rfl rfl
 unfold inT at c5;simp[c5]
 cases c6:inT f.s2
 .unfold inT at c6;simp[c6];exact RetF.st rfl rfl
 unfold inT at c6;simp[c6,x88]
 exact RetF.st rfl rfl
abbrev Pr:=Int×Int
def Pr.c(x:Pr):List AV:=[I x.1,I x.2]
theorem Pr.len(x:Pr):(Pr.c x).length=2:=rfl
theorem Pr.still(x:Pr):(Pr.c x).all Go.Ix.still1=true:=rfl
end Go.Ix
