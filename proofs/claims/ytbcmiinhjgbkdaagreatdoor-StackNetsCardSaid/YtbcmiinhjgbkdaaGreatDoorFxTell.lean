import Derived.Test.YtbcmiinhjgbkdaaGreatDoorFxTop
namespace Go.Ix
open Go.Proofs
theorem pol_told:∀f,pol f x11w≠0->(f=25/\pol f x11w=1)\/(f=86/\pol f x11w=2)\/(f=27/\pol f x11w=5)\/(f=28/\pol f x11w=136010)\/(f=26/\pol f x11w=136011):=by
 intro f
 unfold pol
 split<;>first|(intro h;exact absurd rfl h)|(intro _;repeat(first|exact⟨rfl,rfl⟩|exact .inl ⟨rfl,rfl⟩|apply Or.inr))
end Go.Ix
