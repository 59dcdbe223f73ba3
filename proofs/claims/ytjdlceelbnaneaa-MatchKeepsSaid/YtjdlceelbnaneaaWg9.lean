import Derived.Test.YtjdlceelbnaneaaWg8
import Derived.Test.YtjdlceelbnaneaaWg6
set_option linter.unusedSimpArgs false
set_option linter.unusedVariables false
namespace Go.Ix
open Go.Proofs
abbrev Pr:=Int×Int
def Pr.c(x:Pr):List AV:=[I x.1,I x.2]
theorem Pr.len(x:Pr):(Pr.c x).length=2:=rfl
theorem Pr.still(x:Pr):(Pr.c x).all Go.Ix.still1=true:=rfl
theorem part2(w0 w1:Int):∀o∈[0,1],x6g Try.prog (part x8b #[.int .i64 w0,.int .i64 w1] o)=some (.int .i64 ([w0,w1].getD o 0)):=by
 intro o ho
 simp only[xig,List.not_mem_nil,or_false]at ho
 rcases ho with rfl|rfl<;>kernel_rfl
theorem eq_pair(x y:Operand)(a b:Pr):sBin Try.prog .neq x5 x y (.agg (Pr.c a)) (.agg (Pr.c b))=some (B (!decide (a=b))):=by
 obtain⟨a1,a2⟩:=a
 obtain⟨b1,b2⟩:=b
 refine xh8 (xs:=[.int .i64 a1,.int .i64 a2]) (ys:=[.int .i64 b1,.int .i64 b2]) (by kernel_rfl) ?_ ⟨Pr.c (a1,a2),rfl⟩ _ _ rfl rfl
 have hu:Try.prog.underlying x5=some (.array 2 x8b):=by kernel_rfl
 have hz:x6g Try.prog (sizeOf x8b)=some 1:=by kernel_rfl
 have pa:=part2 a1 a2
 have pb:=part2 b1 b2
 have pa0:=pa 0 (by simp)
 have pa1:=pa 1 (by simp)
 have pb0:=pb 0 (by simp)
 have pb1:=pb 1 (by simp)
 simp only[List.getD_cons_zero,List.getD_cons_succ]at pa0 pa1 pb0 pb1
 rw[show(10000:Nat)=9998+1+1 from rfl,Op.equalIn]
 simp only[x7r,xfh hu,x6z,hz]
 simp only[Std.Legacy.Range.forIn_eq_forIn_range',Std.Legacy.Range.size,Nat.sub_zero,Nat.add_sub_cancel,Nat.div_one,List.range'_succ,List.range'_zero,List.forIn_cons,List.forIn_nil,x7r,xjx,xjh,Nat.one_mul,Nat.mul_one]
 simp only[pa0,pa1,pb0,pb1,x6z,xd5 _ _ _ _ _ _ xd6]
 have e:decide ((a1,a2)=(b1,b2))=(decide (a1=b1)&&decide (a2=b2)):=by
  rw[<-Bool.decide_and,decide_eq_decide,xi7]
 rw[e]
 by_cases h0:a1=b1
 .subst h0
  by_cases h1:a2=b2
  .subst h1;simp[xa9,x7r,pa1,xd5 _ _ _ _ _ _ xd6]
  .simp[xa9,x7r,pa1,pb1,h1,xd5 _ _ _ _ _ _ xd6]
 .simp[xa9,x7r,h0]
def tm(a b c x y:Int):Int:=a+b*x+c*y
theorem tm_bd{a b c x y:Int}(ha:bd a 1000000000000000)(hb:bd b 1000000000000000)(hc:bd c 1000000000000000)(hx:bd x 63)(hy:bd y 63):bd (tm a b c x y) 127000000000000000:=
 ((ha.add (hb.mul hx)).add (hc.mul hy)).mono (by omega)
section
variable{f:Aff}{x y:Int}
theorem AffIn.ts(h:AffIn f)(hx:bd x 63)(hy:bd y 63):bd (tm f.s0 f.s1 f.s2 x y) 127000000000000000:=tm_bd h.s0 h.s1 h.s2 hx hy
theorem eq2_two(X Y:Operand)(a b c e:Int):sBin Try.prog .eql x5 X Y (.agg [I a,I b]) (.agg [I c,I e])=some (B (decide (a=c/\b=e))):=by
 have:=eq_pair X Y (a,b) (c,e)
 have hs:∀op,sBin Try.prog op x5 X Y (.agg [I a,I b]) (.agg [I c,I e])=(x6g Try.prog (do eqGuard op x5 X Y (.agg #[.int .i64 a,.int .i64 b]) (.agg #[.int .i64 c,.int .i64 e]);binOp op x5 (.agg #[.int .i64 a,.int .i64 b]) (.agg #[.int .i64 c,.int .i64 e]))).map x6o:=λop=>rfl
 have hm:Try.prog.eqGuardType Try.prog.depth x5=false:=by kernel_rfl
 have h1:sBin Try.prog .neq x5 X Y (.agg [I a,I b]) (.agg [I c,I e])=some (B (!decide ((a,b)=(c,e)))):=this
 rw[hs]at h1 ⊢
 simp only[x7r,xfi _ _ _ _ _ _ hm,x6z]at h1 ⊢
 have n1:x6g Try.prog (binOp .neq x5 (.agg #[.int .i64 a,.int .i64 b]) (.agg #[.int .i64 c,.int .i64 e]))=(x6g Try.prog (Op.equal x5 (.agg #[.int .i64 a,.int .i64 b]) (.agg #[.int .i64 c,.int .i64 e]))).map λr=>Value.bool (!r):=by
  show x6g Try.prog (do pure (Value.bool (!(<-Op.equal _ _ _))))=_
  rw[x7r]
  cases x6g Try.prog (Op.equal x5 (.agg #[.int .i64 a,.int .i64 b]) (.agg #[.int .i64 c,.int .i64 e]))<;>rfl
 have n2:x6g Try.prog (binOp .eql x5 (.agg #[.int .i64 a,.int .i64 b]) (.agg #[.int .i64 c,.int .i64 e]))=(x6g Try.prog (Op.equal x5 (.agg #[.int .i64 a,.int .i64 b]) (.agg #[.int .i64 c,.int .i64 e]))).map λr=>Value.bool r:=by
  show x6g Try.prog (do pure (Value.bool (<-Op.equal _ _ _)))=_
  rw[x7r]
  cases x6g Try.prog (Op.equal x5 (.agg #[.int .i64 a,.int .i64 b]) (.agg #[.int .i64 c,.int .i64 e]))<;>rfl
 rw[n1]at h1
 rw[n2]
 cases hr:x6g Try.prog (Op.equal x5 (.agg #[.int .i64 a,.int .i64 b]) (.agg #[.int .i64 c,.int .i64 e]))with
 |none=>rw[hr]at h1;cases h1
 |some r=>
  rw[hr]at h1
  simp[x6o]at h1 ⊢
  have:r=decide (a=c/\b=e):=by
   cases r<;>simp_all
  simpa using this
end
end Go.Ix
