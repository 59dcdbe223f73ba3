import Derived.Test.YtacloojepepcfaaGreatDoorFxTop
namespace Go.Ix
open Go.Proofs
theorem pol_told:∀f,pol f xqg≠0->(f=26/\pol f xqg=1)\/(f=31/\pol f xqg=2)\/(f=27/\pol f xqg=5):=by
 intro f
 unfold pol
 split<;>first|(intro h;exact absurd rfl h)|(intro _;repeat(first|exact⟨rfl,rfl⟩|exact .inl ⟨rfl,rfl⟩|apply Or.inr))
end Go.Ix
