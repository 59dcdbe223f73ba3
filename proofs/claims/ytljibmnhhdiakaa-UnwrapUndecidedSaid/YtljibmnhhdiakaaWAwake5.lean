import Derived.Test.YtljibmnhhdiakaaWBase
import Derived.ProofKit
namespace Go.Ix
theorem e_awake:((x1qp 30 [] xw [] mem0).map (fun p=>p.1))=some (B true):=by kernel_rfl
theorem w_awake(m:Mem):x1qq (x1qp 30) xw [] m=some (B true,m):=by
 have h:=e_awake
 rw[Option.map_eq_some_iff]at h
 obtain⟨⟨r,m'⟩,h1,rfl⟩:=h
 exact call0 rfl h1 rfl
end Go.Ix
