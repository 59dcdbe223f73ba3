import Derived.Test.YtacloojepepcfaaFxTop
namespace Go.Ix
open Go.Proofs
theorem pol_told:∀f,pol f x9f≠0->(f=25/\pol f x9f=4):=by
 intro f
 unfold pol
 split<;>first|(intro h;exact absurd rfl h)|(intro _;repeat(first|exact⟨rfl,rfl⟩|exact .inl ⟨rfl,rfl⟩|apply Or.inr))
theorem known_no(w:World):xcb Try.prog w:=by
 have h1:Try.prog.funcs.any (·.name == "strconv.Itoa")=false:=by kernel_rfl
 have h2:Try.prog.funcs.any (·.name == "strconv.Atoi")=false:=by kernel_rfl
 exact⟨λh=>(by rw[h1]at h;cases h),λh=>(by rw[h2]at h;cases h)⟩
end Go.Ix
