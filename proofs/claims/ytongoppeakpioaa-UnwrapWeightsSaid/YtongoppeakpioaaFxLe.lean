import Derived.Test.YtongoppeakpioaaFxEq0
import Derived.Test.YtongoppeakpioaaFxCall
namespace Go.Ix
open Go.Proofs
set_option maxRecDepth 100000 in
theorem told:Told Try.prog pol NN table:=⟨le3 (fn:=Try.f23) x38,le3 (fn:=Try.f3) x39,le1 (fn:=Try.f5) x3a,le1 (fn:=Try.f6) x3b,le2 (fn:=Try.f7) x3c,le3 (fn:=Try.f14) x3d,le1 (fn:=Try.f15) x3e,le2 (fn:=Try.f16) x3f,le2 (fn:=Try.f17) x3g,le3 (fn:=Try.f18) x3h,le1 (fn:=Try.f19) x3i,le1 (fn:=Try.f35) x3j,le3 (fn:=Try.f36) x3k,le3 (fn:=Try.f37) x3l,trivial⟩
end Go.Ix
