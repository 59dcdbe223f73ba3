import Derived.Test.YtgediplphidhpaaGreatFxTop
namespace Go.Ix
open Go.Proofs
theorem pol_told:∀f,pol f xpm≠0->(f=87/\pol f xpm=3):=by
 intro f
 unfold pol
 split<;>first|(intro h;exact absurd rfl h)|(intro _;exact⟨rfl,rfl⟩)|(intro _;exact .inl ⟨rfl,rfl⟩)|(intro _;exact .inr ⟨rfl,rfl⟩)
theorem known_no(w:World):xt9 Tryz.prog w:=by
 have h1:Tryz.prog.funcs.any (·.name == "strconv.Itoa")=false:=by kernel_rfl
 have h2:Tryz.prog.funcs.any (·.name == "strconv.Atoi")=false:=by kernel_rfl
 exact⟨λh=>(by rw[h1]at h;cases h),λh=>(by rw[h2]at h;cases h)⟩
end Go.Ix
