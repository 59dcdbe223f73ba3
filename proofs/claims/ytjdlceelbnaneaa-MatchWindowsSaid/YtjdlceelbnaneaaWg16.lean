import Derived.Test.YtjdlceelbnaneaaWg5
import Derived.Test.YtjdlceelbnaneaaWg1
import Derived.Test.YtjdlceelbnaneaaWg15
set_option linter.unusedSimpArgs false
set_option linter.unusedVariables false
namespace Go.Ix
open Go.Proofs
end Go.Ix
set_option exponentiation.threshold 3000
namespace Go.Ix
open Go.Proofs Ieee
theorem s_if32(n:Int):sCvt Try.prog x7g x5 (I n)=some (.sc (.float .f32 (FloatKind.f32.nearest n))):=by
 have hn:x74 Try.prog (convert x7g x5 (.int .i64 n))=some (.float .f32 (FloatKind.f32.nearest n)):=by kernel_rfl
 unfold sCvt cvt0
 simp only[show x77 (I n)=some (.int .i64 n)from rfl,show xa1 Try.prog x7g x5 (.int .i64 n)=none from rfl,hn]
 rfl
theorem atM_bd{L S:Int}{D:List Px}(hR:RtI L S D)(l s:Int):bd (atM L S D l s).1 2047/\bd (atM L S D l s).2 2047:=by
 unfold atM
 cases c:(wi l 0 (L-1)&&wi s 0 (S-1))
 .unfold bd;simp
 rw[xjv]at c
 obtain⟨b1,b2,-,-⟩:=at_in hR c.1 c.2
 have hk:(l*S+s).toNat<D.length:=by omega
 have hrt:=hR.d _ (xks hk)
 rw[xbi,xka,xk6 hk]
 exact⟨hrt.1.bd,hrt.2.bd⟩
end Go.Ix
namespace Go.Ix
open Go.Proofs Ieee
variable{a:AV}{D:List Px}{L S:Int}
section
variable(d:Nat)(hs:FHs)(u:Nat)(ha:Sl pxE a D)(hR:RtI L S D)
include ha hR
end
def f32w(n:Int):Nat:=FloatKind.f32.nearest n
def spx(p:Int×Int):Px:=(f32w p.1,f32w p.2)
abbrev sPX(p:Int×Int):AV:=C32 (f32w p.1) (f32w p.2)
variable{a:AV}{D:List Px}{L S:Int}
section
variable(d:Nat)(hs:FHs)(u:Nat)(ha:Sl pxE a D)(hR:RtI L S D)
include ha hR
end
end Go.Ix
