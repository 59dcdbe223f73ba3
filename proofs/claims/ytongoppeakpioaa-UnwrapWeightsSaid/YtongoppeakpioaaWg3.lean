import Derived.Test.YtongoppeakpioaaWBase
set_option linter.unusedSimpArgs false
set_option linter.unusedVariables false
namespace Go.Ix
structure Mp where
 ln:Int
 sm:Int
 b0:Int
 b1:Int
 sc:Int
def Mp.c(x:Mp):List AV:=[I x.ln,I x.sm,I x.b0,I x.b1,I x.sc]
theorem Mp.len(x:Mp):x.c.length=5:=rfl
theorem Mp.still(x:Mp):x.c.all still1=true:=rfl
def su(f:Mp->Int):List Mp->Int
 |[]=>0
 |x::l=>f x+su f l
def sN(l:List Mp):Int:=su (λ_=>1) l
def sA(l:List Mp):Int:=su Mp.ln l
def sB(l:List Mp):Int:=su Mp.sm l
def sC(l:List Mp):Int:=su (λx=>x.ln*x.ln) l
def sD(l:List Mp):Int:=su (λx=>x.ln*x.sm) l
def sE(l:List Mp):Int:=su (λx=>x.sm*x.sm) l
def Mp.at(f x:Mp):Prop:=x.ln=f.ln/\x.sm=f.sm
instance (f x:Mp):Decidable (f.at x):=by unfold Mp.at;infer_instance
open Go.Proofs
structure Edge where
 fr:Int
 to:Int
 jump:Int
 wt:Int
def Edge.c(e:Edge):List AV:=[I e.fr,I e.to,I e.jump,I e.wt]
theorem Edge.len(e:Edge):e.c.length=4:=rfl
def wi(a b c:Int):Bool:=decide (b<=a/\a<=c)
theorem wi_t{a b c:Int}(h:wi a b c=true):b<=a/\a<=c:=xi1 h
theorem wi_iff{a b c:Int}:wi a b c=true↔b<=a/\a<=c:=decide_eq_true_iff
theorem xe4(d:Nat)(a b c:Int)(m:Mem):x3u (x3q (d+1)) xj [I a,I b,I c] m=some (B (wi a b c),m):=by
 refine call0 rfl (m':=⟨[],1⟩) ?_ rfl
 rw[x36]
 unfold x29 x1v wi
 by_cases h:b<=a<;>by_cases h2:a<=c<;>simp[h,h2,mem0]
theorem xe5(d:Nat)(a b c:Int)(m:Mem):x3u (x3q (d+1)) xd [I a,I b,I c] m=some (B (wi a b c),m):=by
 refine call0 rfl (m':=⟨[],1⟩) ?_ rfl
 rw[x33]
 unfold x1w x1o wi
 by_cases h:b<=a<;>by_cases h2:a<=c<;>simp[h,h2,mem0]
theorem x6u:Try.prog.underlying x7=some (.slice x4n):=by kernel_rfl
end Go.Ix
