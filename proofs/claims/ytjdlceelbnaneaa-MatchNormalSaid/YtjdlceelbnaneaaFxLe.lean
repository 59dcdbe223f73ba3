import Derived.Test.YtjdlceelbnaneaaFxEq0
import Derived.Test.YtjdlceelbnaneaaFxCall
namespace Go.Ix
open Go.Proofs
theorem told:Told Try.prog pol NN table:=⟨le1 (fn:=Try.f6) x4m,le3 (fn:=Try.f21) x4n,le1 (fn:=Try.f26) x4o,le1 (fn:=Try.f27) x4p,le1 (fn:=Try.f28) x4q,le1 (fn:=Try.f29) x4r,le2 (fn:=Try.f31) x4s,le2 (fn:=Try.f32) x4t,le1 (fn:=Try.f62) x4u,le1 (fn:=Try.f65) x4v,le3 (fn:=Try.f80) x4w,le1 (fn:=Try.f82) x4x,le1 (fn:=Try.f83) x4y,le1 (fn:=Try.f84) x4z,le1 (fn:=Try.f96) x50,le1 (fn:=Try.f100) x51,le1 (fn:=Try.f103) x52,le2 (fn:=Try.f107) x53,le1 (fn:=Try.f122) x54,trivial⟩
end Go.Ix
