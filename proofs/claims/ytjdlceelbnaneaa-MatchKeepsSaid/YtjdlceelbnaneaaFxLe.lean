import Derived.Test.YtjdlceelbnaneaaFxEq0
import Derived.Test.YtjdlceelbnaneaaFxCall
namespace Go.Ix
open Go.Proofs
theorem told:Told Try.prog pol NN table:=⟨le2 (fn:=Try.f14) x5m,le3 (fn:=Try.f21) x5n,le1 (fn:=Try.f24) x5o,le1 (fn:=Try.f28) x5p,le1 (fn:=Try.f53) x5q,le1 (fn:=Try.f62) x5r,le1 (fn:=Try.f63) x5s,le2 (fn:=Try.f64) x5t,le1 (fn:=Try.f65) x5u,le1 (fn:=Try.f66) x5v,le2 (fn:=Try.f67) x5w,le2 (fn:=Try.f68) x5x,le3 (fn:=Try.f80) x5y,le1 (fn:=Try.f82) x5z,le1 (fn:=Try.f96) x60,le1 (fn:=Try.f100) x61,le1 (fn:=Try.f101) x62,le2 (fn:=Try.f102) x63,le1 (fn:=Try.f103) x64,le1 (fn:=Try.f122) x65,le1 (fn:=Try.f123) x66,le4 (fn:=Try.f132) x67,le1 (fn:=Try.f133) x68,le1 (fn:=Try.f136) x69,le3 (fn:=Try.f140) x6a,le2 (fn:=Try.f146) x6b,le1 (fn:=Try.f150) x6c,trivial⟩
end Go.Ix
