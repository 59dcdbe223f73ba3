import Derived.Test.YtacloojepepcfaaFxEq0
import Derived.Test.YtacloojepepcfaaFxCall
namespace Go.Ix
open Go.Proofs
set_option maxRecDepth 100000 in
theorem told:Told Try.prog pol NN table:=⟨le3 (fn:=Try.f21) x70,le1 (fn:=Try.f40) x71,le2 (fn:=Try.f50) x72,le3 (fn:=Try.f3) x73,le2 (fn:=Try.f5) x74,le1 (fn:=Try.f6) x75,le3 (fn:=Try.f7) x76,le1 (fn:=Try.f8) x77,le2 (fn:=Try.f9) x78,le3 (fn:=Try.f10) x79,le2 (fn:=Try.f11) x7a,le2 (fn:=Try.f18) x7b,le2 (fn:=Try.f19) x7c,le1 (fn:=Try.f20) x7d,le2 (fn:=Try.f22) x7e,le1 (fn:=Try.f23) x7f,le1 (fn:=Try.f24) x7g,le2 (fn:=Try.f26) x7h,le2 (fn:=Try.f27) x7i,le3 (fn:=Try.f28) x7j,le1 (fn:=Try.f29) x7k,le3 (fn:=Try.f30) x7l,le2 (fn:=Try.f31) x7m,le1 (fn:=Try.f39) x7n,le3 (fn:=Try.f44) x7o,le1 (fn:=Try.f45) x7p,le2 (fn:=Try.f46) x7q,le2 (fn:=Try.f47) x7r,le2 (fn:=Try.f63) x7s,trivial⟩
end Go.Ix
