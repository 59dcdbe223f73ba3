import Derived.Test.YtklcdahoajabmaaWg5
import Derived.Test.YtklcdahoajabmaaWg1
import Derived.Test.YtklcdahoajabmaaWg0
import Derived.ProofKit
set_option linter.unusedSimpArgs false
set_option linter.unusedVariables false
namespace Go.Ix
open Go.Proofs
theorem xe3:xa=[I 0,I 0]:=by kernel_rfl
theorem Edge.still1(e:Edge):e.c.all Go.Ix.still1=true:=rfl
abbrev Pr:=Int×Int
def Pr.c(x:Pr):List AV:=[I x.1,I x.2]
theorem Pr.len(x:Pr):(Pr.c x).length=2:=rfl
theorem Pr.still(x:Pr):(Pr.c x).all Go.Ix.still1=true:=rfl
theorem part2(w0 w1:Int):∀o∈[0,1],xd0 Try.prog (part xd5 #[.int .i64 w0,.int .i64 w1] o)=some (.int .i64 ([w0,w1].getD o 0)):=by
 intro o ho
 simp only[xtm,List.not_mem_nil,or_false]at ho
 rcases ho with rfl|rfl<;>kernel_rfl
theorem eq_pair(x y:Operand)(a b:Pr):sBin Try.prog .neq xb x y (.agg (Pr.c a)) (.agg (Pr.c b))=some (B (!decide (a=b))):=by
 obtain⟨a1,a2⟩:=a
 obtain⟨b1,b2⟩:=b
 refine xqv (xs:=[.int .i64 a1,.int .i64 a2]) (ys:=[.int .i64 b1,.int .i64 b2]) (by kernel_rfl) ?_ ⟨Pr.c (a1,a2),rfl⟩ _ _ rfl rfl
 have hu:Try.prog.underlying xb=some (.array 2 xd5):=by kernel_rfl
 have hz:xd0 Try.prog (sizeOf xd5)=some 1:=by kernel_rfl
 have pa:=part2 a1 a2
 have pb:=part2 b1 b2
 have pa0:=pa 0 (by simp)
 have pa1:=pa 1 (by simp)
 have pb0:=pb 0 (by simp)
 have pb1:=pb 1 (by simp)
 simp only[List.getD_cons_zero,List.getD_cons_succ]at pa0 pa1 pb0 pb1
 rw[show(10000:Nat)=9998+1+1 from rfl,Op.equalIn]
 simp only[xf6,xof hu,xdd,hz]
 simp only[Std.Legacy.Range.forIn_eq_forIn_range',Std.Legacy.Range.size,Nat.sub_zero,Nat.add_sub_cancel,Nat.div_one,xwi,List.range'_zero,List.forIn_cons,List.forIn_nil,xf6,xty,xuf,Nat.one_mul,Nat.mul_one]
 simp only[pa0,pa1,pb0,pb1,xdd,xlg _ _ _ _ _ _ xlh]
 have e:decide ((a1,a2)=(b1,b2))=(decide (a1=b1)&&decide (a2=b2)):=by
  rw[<-Bool.decide_and,decide_eq_decide,xtc]
 rw[e]
 by_cases h0:a1=b1
 .subst h0
  by_cases h1:a2=b2
  .subst h1;simp[xhe,xf6,pa1,xlg _ _ _ _ _ _ xlh]
  .simp[xhe,xf6,pa1,pb1,h1,xlg _ _ _ _ _ _ xlh]
 .simp[xhe,xf6,h0]
def dotW(a b c x y z:Int):Int:=aW (aW (mW a x) (mW b y)) (mW c z)
theorem e_shat(d:Nat)(f:Aff)(x y:Int):((xcu (d+2) [] x8m [.agg f.c,I x,I y] mem0).bind λp=>Go.Ix.frz p.2.get deep p.1)=some (.agg [I (dotW f.l0 f.l1 f.l2 1 x y),I (dotW f.s0 f.s1 f.s2 1 x y)]):=by kernel_rfl
def tm(a b c x y:Int):Int:=a+b*x+c*y
theorem tm_bd{a b c x y:Int}(ha:bd a 1000000000000000)(hb:bd b 1000000000000000)(hc:bd c 1000000000000000)(hx:bd x 63)(hy:bd y 63):bd (tm a b c x y) 127000000000000000:=
 ((ha.add (hb.mul hx)).add (hc.mul hy)).mono (by omega)
theorem dotW_tm{a b c x y:Int}(h:bd (tm a b c x y) 127000000000000000):dotW a b c 1 x y=tm a b c x y:=by
 refine aW_of ?_ (h.mono (by omega))
 exact(cg_a (cg_a (cg_m (.refl a) (.refl 1)) (cg_m (.refl b) (.refl x))) (cg_m (.refl c) (.refl y))).trans (by unfold tm;omega)
section
variable{f:Aff}{x y:Int}
theorem AffIn.tl(h:AffIn f)(hx:bd x 63)(hy:bd y 63):bd (tm f.l0 f.l1 f.l2 x y) 127000000000000000:=tm_bd h.l0 h.l1 h.l2 hx hy
theorem AffIn.ts(h:AffIn f)(hx:bd x 63)(hy:bd y 63):bd (tm f.s0 f.s1 f.s2 x y) 127000000000000000:=tm_bd h.s0 h.s1 h.s2 hx hy
theorem w_shat(d:Nat)(h:AffIn f)(hx:bd x 63)(hy:bd y 63)(m:Mem):xcv (xcu (d+2)) x8m [.agg f.c,I x,I y] m=some (.agg [I (tm f.l0 f.l1 f.l2 x y),I (tm f.s0 f.s1 f.s2 x y)],m):=by
 have e:=e_shat d f x y
 rw[dotW_tm (h.tl hx hy),dotW_tm (h.ts hx hy)]at e
 exact xd3 rfl (xjp e) m
def shL(f:Aff)(x y:Int):Int:=(32*tm f.l0 f.l1 f.l2 x y+f.den) / (2*f.den)
def shS(f:Aff)(x y:Int):Int:=(32*tm f.s0 f.s1 f.s2 x y+f.den) / (2*f.den)
theorem z_shift3:x83=[I 0,I 0,I 0,I 0,I 0,I 0,I 0]:=by kernel_rfl
theorem w_parts3(d:Nat)(h:AffIn f)(hx:bd x 63)(hy:bd y 63)(m:Mem):xcv (xcu (d+3)) x28 [.agg f.c,I x,I y] m=some (.agg [I (shL f x y),I (shS f x y)],m):=by
 refine xd3 rfl ?_ m
 have h1:=h.d0
 have h2:=h.d1
 have t1:=h.tl hx hy
 have t2:=h.ts hx hy
 have a1:=w_shat (d+0) h hx hy
 have b1:bd (16*tm f.l0 f.l1 f.l2 x y) 4000000000000000000:=by unfold bd at *;omega
 have b2:bd (16*tm f.s0 f.s1 f.s2 x y) 4000000000000000000:=by unfold bd at *;omega
 have n1:=xlp d h1 h2 b1
 have n2:=xlp d h1 h2 b2
 rw[xa3]
 unfold x6v x50
 unfold bd at b1 b2
 simp only[Aff.c]at a1
 simp[mem0,Aff.c,xe3]
 simp[a1]
 simp(disch:=omega) [sIxA,asI]
 simp(disch:=omega) [n1,n2,build_F]
 refine RetF.st (by simp) ?_
 simp only[shL,shS]
 rw[show(2:Int)*(16*tm f.l0 f.l1 f.l2 x y)=32*tm f.l0 f.l1 f.l2 x y by omega,show(2:Int)*(16*tm f.s0 f.s1 f.s2 x y)=32*tm f.s0 f.s1 f.s2 x y by omega]
 rfl
end
theorem InB.get{l:List Scene}(h:InB l){k:Nat}(hk:k<l.length):(0<=l[k].day/\l[k].day<=100000)/\(-100000<=l[k].bl/\l[k].bl<=100000):=h _ (xub hk)
def Pq.v(p:Pq):Value:=.agg [.int .i64 p.a,.int .i64 p.b].toArray
theorem frz_row{α:Type}{enc:α->List AV}{z k:Nat}(hz:∀x,(enc x).length=z)(hs:∀x,(enc x).all still1=true){objs:Id->Option Ob}{id:Id}{l:List α}{x:Bool}(hg:objs id=some (.row (l.flatMap enc) 0 false)) :
 frz objs (k+2) (.sref id 0 0 l.length z x)=some (.slit (l.flatMap enc) l.length false):=by
 have hl:=xfk hz l
 have:=xhd (objs:=objs) (id:=id) (cs:=l.flatMap enc) (ver:=0) (off:=0) (n:=l.length) (z:=z) (k:=k) (f:=false) (x:=x) hg (by omega) (by
  rw[xu9,xud (by omega)];exact xib hs l)
 rw[xu9,xud (by omega)]at this
 exact this
theorem rd_5(a b c d e:AV)(cs:List AV):rd true 5 (a::b::c::d::e::cs)=some (.agg [a,b,c,d,e]):=by rw[rd_t];simp only[xtl];rw[xtq (by omega)];rfl
attribute [local simp high] rd_5
variable{a:AV}{l:List Mp}
end Go.Ix
