import Derived.Test.YtdcffnlnagmbhaaGreatDoorFxTop
namespace Go.Ix
open Go.Proofs
theorem pol_told:∀f,pol f xqn≠0->(f=46/\pol f xqn=1)\/(f=50/\pol f xqn=2)\/(f=47/\pol f xqn=5):=by
 intro f
 unfold pol
 split<;>first|(intro h;exact absurd rfl h)|(intro _;repeat(first|exact⟨rfl,rfl⟩|exact .inl ⟨rfl,rfl⟩|apply Or.inr))
end Go.Ix
