import Derived.Test.YthfjdkhccimggaaGreatDoorFxTop
namespace Go.Ix
open Go.Proofs
theorem pol_told:∀f,pol f x15n≠0->(f=152/\pol f x15n=1)\/(f=307/\pol f x15n=2):=by
 intro f
 unfold pol
 split<;>first|(intro h;exact absurd rfl h)|(intro _;exact .inl ⟨rfl,rfl⟩)|(intro _;exact .inr ⟨rfl,rfl⟩)
end Go.Ix
