import Derived.Test.YtdcffnlnagmbhaaGreatDoorWg16
import Derived.Test.YtdcffnlnagmbhaaGreatDoorWg12
set_option linter.unusedSimpArgs false
set_option linter.unusedVariables false
namespace Go.Ix
open Go.Proofs
attribute [local simp high] rdP_5
variable{a:AV}{l:List Mp}
attribute [local simp high] rdP_5
variable{a:AV}{l:List Mp}
attribute [local simp high] rdP_5
variable{a:AV}{l:List Mp}
theorem part3(w0 w1 w2:Int):∀o∈[0,1,2],xpf Tryz.prog (part xpm #[.int .i64 w0,.int .i64 w1,.int .i64 w2] o)=some (.int .i64 ([w0,w1,w2].getD o 0)):=by
 intro o ho
 simp only[x174,x18z,or_false]at ho
 rcases ho with rfl|rfl|rfl<;>kernel_rfl
theorem eqArr3{t:TypeId}(hu:Tryz.prog.underlying t=some (.array 3 xpm))(k:Nat)(x0 x1 x2 y0 y1 y2:Int) :
 xpf Tryz.prog (Op.equalIn (k+1+1) t (.agg #[.int .i64 x0,.int .i64 x1,.int .i64 x2]) (.agg #[.int .i64 y0,.int .i64 y1,.int .i64 y2]))=some (decide (x0=y0/\x1=y1/\x2=y2)):=by
 have hz:xpf Tryz.prog (sizeOf xpm)=some 1:=by kernel_rfl
 have pa:=part3 x0 x1 x2
 have pb:=part3 y0 y1 y2
 have pa0:=pa 0 (by simp)
 have pa1:=pa 1 (by simp)
 have pa2:=pa 2 (by simp)
 have pb0:=pb 0 (by simp)
 have pb1:=pb 1 (by simp)
 have pb2:=pb 2 (by simp)
 simp only[List.getD_cons_zero,List.getD_cons_succ]at pa0 pa1 pa2 pb0 pb1 pb2
 rw[Op.equalIn]
 simp only[xqp,xwc hu,xpe,hz]
 simp only[Std.Legacy.Range.forIn_eq_forIn_range',Std.Legacy.Range.size,x1a3,x1ai,Nat.div_one,List.range'_succ,List.range'_zero,x1al,List.forIn_nil,xqp,x18o,x17n,Nat.one_mul,x18q]
 simp only[Nat.reduceAdd,pa0,pa1,pa2,pb0,pb1,pb2,xpe,xvc _ _ _ _ _ _ xvd]
 have ie:∀x y:Int,xpf Tryz.prog (Op.equalIn (k+1) xpm (.int .i64 x) (.int .i64 y))=some (x == y):=λx y=>xvc _ _ _ _ _ _ xvd
 by_cases h0:x0=y0
 .subst h0
  by_cases h1:x1=y1
  .subst h1
   by_cases h2:x2=y2
   .subst h2
    simp[xrn,xqp,pa1,pa2,ie]
   .simp[h2,xrn,xqp,pa1,pa2,pb1,pb2,ie]
  .simp[h1,xrn,xqp,pa1,pb1,ie]
 .simp[h0,xrn,xqp]
end Go.Ix
