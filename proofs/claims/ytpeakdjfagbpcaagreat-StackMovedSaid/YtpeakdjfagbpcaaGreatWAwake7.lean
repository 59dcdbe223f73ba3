import Derived.Test.YtpeakdjfagbpcaaGreatWBase
import Derived.ProofKit
namespace Go.Ix
theorem e_awake7:((x1xv 30 [] x34 [] mem0).map (fun p=>p.1))=some (B true):=by kernel_rfl
theorem w_awake7(m:Mem):x1xt (x1xv 30) x34 [] m=some (B true,m):=by
 have h:=e_awake7
 rw[Option.map_eq_some_iff]at h
 obtain⟨⟨r,m'⟩,h1,rfl⟩:=h
 exact call0 rfl h1 rfl
end Go.Ix
