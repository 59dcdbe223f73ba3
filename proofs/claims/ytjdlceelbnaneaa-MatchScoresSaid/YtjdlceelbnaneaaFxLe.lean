import Derived.Test.YtjdlceelbnaneaaFxEq0
import Derived.Test.YtjdlceelbnaneaaFxCall
namespace Go.Ix
open Go.Proofs
theorem told:Told Try.prog pol NN table:=⟨le3 (fn:=Try.f3) x7k,le1 (fn:=Try.f16) x7l,le3 (fn:=Try.f17) x7m,le1 (fn:=Try.f18) x7n,le2 (fn:=Try.f19) x7o,le3 (fn:=Try.f20) x7p,le3 (fn:=Try.f21) x7q,le1 (fn:=Try.f24) x7r,le1 (fn:=Try.f37) x7s,le1 (fn:=Try.f38) x7t,le1 (fn:=Try.f40) x7u,le3 (fn:=Try.f44) x7v,le2 (fn:=Try.f46) x7w,le3 (fn:=Try.f71) x7x,le1 (fn:=Try.f73) x7y,le2 (fn:=Try.f74) x7z,le3 (fn:=Try.f75) x80,le1 (fn:=Try.f76) x81,le1 (fn:=Try.f77) x82,le5 (fn:=Try.f78) x83,le2 (fn:=Try.f79) x84,le3 (fn:=Try.f80) x85,le1 (fn:=Try.f87) x86,le1 (fn:=Try.f89) x87,le1 (fn:=Try.f91) x88,le2 (fn:=Try.f92) x89,le1 (fn:=Try.f96) x8a,le2 (fn:=Try.f104) x8b,le2 (fn:=Try.f105) x8c,le1 (fn:=Try.f106) x8d,le2 (fn:=Try.f107) x8e,le1 (fn:=Try.f114) x8f,le3 (fn:=Try.f116) x8g,le3 (fn:=Try.f118) x8h,le2 (fn:=Try.f119) x8i,le3 (fn:=Try.f120) x8j,le3 (fn:=Try.f129) x8k,le2 (fn:=Try.f130) x8l,le3 (fn:=Try.f131) x8m,le3 (fn:=Try.f137) x8n,le2 (fn:=Try.f138) x8o,le1 (fn:=Try.f139) x8p,le2 (fn:=Try.f152) x8q,le1 (fn:=Try.f153) x8r,le1 (fn:=Try.f154) x8s,trivial⟩
end Go.Ix
