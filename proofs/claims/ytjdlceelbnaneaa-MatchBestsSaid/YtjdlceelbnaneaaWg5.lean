import Derived.Test.YtjdlceelbnaneaaWg4
import Derived.Test.YtjdlceelbnaneaaWg1
import Derived.Test.YtjdlceelbnaneaaWg0
import Derived.ProofKit
set_option linter.unusedSimpArgs false
set_option linter.unusedVariables false
namespace Go.Ix
open Go.Proofs
theorem xcs:x8=[I 0,I 0]:=by kernel_rfl
theorem Edge.still1(e:Edge):e.c.all Go.Ix.still1=true:=rfl
abbrev Pr:=Int×Int
def Pr.c(x:Pr):List AV:=[I x.1,I x.2]
theorem Pr.len(x:Pr):(Pr.c x).length=2:=rfl
theorem Pr.still(x:Pr):(Pr.c x).all Go.Ix.still1=true:=rfl
theorem part2(w0 w1:Int):∀o∈[0,1],xc6 Try.prog (part xcb #[.int .i64 w0,.int .i64 w1] o)=some (.int .i64 ([w0,w1].getD o 0)):=by
 intro o ho
 simp only[xrj,List.not_mem_nil,or_false]at ho
 rcases ho with rfl|rfl<;>kernel_rfl
def tm(a b c x y:Int):Int:=a+b*x+c*y
theorem tm_bd{a b c x y:Int}(ha:bd a 1000000000000000)(hb:bd b 1000000000000000)(hc:bd c 1000000000000000)(hx:bd x 63)(hy:bd y 63):bd (tm a b c x y) 127000000000000000:=
 ((ha.add (hb.mul hx)).add (hc.mul hy)).mono (by omega)
section
variable{f:Aff}{x y:Int}
theorem AffIn.ts(h:AffIn f)(hx:bd x 63)(hy:bd y 63):bd (tm f.s0 f.s1 f.s2 x y) 127000000000000000:=tm_bd h.s0 h.s1 h.s2 hx hy
theorem xil(X Y:Operand)(a b c e:Int):sBin Try.prog .eql xd X Y (.agg [I a,I b]) (.agg [I c,I e])=some (B (decide (a=c/\b=e))):=by
 have h2:xc6 Try.prog (Op.equalIn 10000 xd (.agg #[.int .i64 a,.int .i64 b]) (.agg #[.int .i64 c,.int .i64 e]))=some (decide (a=c/\b=e)):=by
  have hu:Try.prog.underlying xd=some (.array 2 xcb):=by kernel_rfl
  have hz:xc6 Try.prog (sizeOf xcb)=some 1:=by kernel_rfl
  have pa:=part2 a b
  have pb:=part2 c e
  have pa0:=pa 0 (by simp)
  have pa1:=pa 1 (by simp)
  have pb0:=pb 0 (by simp)
  have pb1:=pb 1 (by simp)
  simp only[List.getD_cons_zero,List.getD_cons_succ]at pa0 pa1 pb0 pb1
  rw[show(10000:Nat)=9998+1+1 from rfl,Op.equalIn]
  simp only[xeh,xmr hu,xcc,hz]
  simp only[Std.Legacy.Range.forIn_eq_forIn_range',Std.Legacy.Range.size,Nat.sub_zero,Nat.add_sub_cancel,Nat.div_one,List.range'_succ,List.range'_zero,List.forIn_cons,List.forIn_nil,xeh,xs2,xsm,Nat.one_mul,Nat.mul_one]
  have ie:∀x y:Int,xc6 Try.prog (Op.equalIn (9998+1) xcb (.int .i64 x) (.int .i64 y))=some (x == y):=λx y=>xp1 _ _ _ _ _ _ und_int
  simp only[pa0,pa1,pb0,pb1,xcc,ie]
  by_cases h0:a=c
  .subst h0
   by_cases h1:b=e
   .subst h1
    simp[xgc,xeh,pa1,ie]
   .simp[h1,xgc,xeh,pa1,pb1,ie]
  .simp[h0,xgc,xeh]
 exact xp3 (x:=X) (y:=Y) (xs:=[.int .i64 a,.int .i64 b]) (ys:=[.int .i64 c,.int .i64 e]) (t:=xd) (by kernel_rfl) h2 [I a,I b] [I c,I e] rfl rfl
end
theorem InB.get{l:List Scene}(h:InB l){k:Nat}(hk:k<l.length):(0<=l[k].day/\l[k].day<=100000)/\(-100000<=l[k].bl/\l[k].bl<=100000):=h _ (xsb hk)
def Pq.v(p:Pq):Value:=.agg [.int .i64 p.a,.int .i64 p.b].toArray
theorem rd_5(a b c d e:AV)(cs:List AV):rd true 5 (a::b::c::d::e::cs)=some (.agg [a,b,c,d,e]):=by rw[rd_t];simp only[xro];rw[xrm (by omega)];rfl
attribute [local simp high] rd_5
variable{a:AV}{l:List Mp}
end Go.Ix
