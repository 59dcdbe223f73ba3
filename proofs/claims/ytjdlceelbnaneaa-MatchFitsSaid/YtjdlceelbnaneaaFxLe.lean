import Derived.Test.YtjdlceelbnaneaaFxEq0
import Derived.Test.YtjdlceelbnaneaaFxCall
namespace Go.Ix
open Go.Proofs
theorem told:Told Try.prog pol NN table:=⟨le2 (fn:=Try.f11) x6t,le3 (fn:=Try.f21) x6u,le1 (fn:=Try.f24) x6v,le1 (fn:=Try.f26) x6w,le1 (fn:=Try.f27) x6x,le1 (fn:=Try.f28) x6y,le1 (fn:=Try.f29) x6z,le1 (fn:=Try.f51) x70,le1 (fn:=Try.f53) x71,le1 (fn:=Try.f54) x72,le2 (fn:=Try.f55) x73,le2 (fn:=Try.f56) x74,le1 (fn:=Try.f57) x75,le1 (fn:=Try.f58) x76,le1 (fn:=Try.f62) x77,le1 (fn:=Try.f65) x78,le2 (fn:=Try.f79) x79,le3 (fn:=Try.f80) x7a,le1 (fn:=Try.f82) x7b,le1 (fn:=Try.f83) x7c,le1 (fn:=Try.f84) x7d,le1 (fn:=Try.f96) x7e,le1 (fn:=Try.f100) x7f,le1 (fn:=Try.f103) x7g,le2 (fn:=Try.f107) x7h,le1 (fn:=Try.f122) x7i,trivial⟩
end Go.Ix
