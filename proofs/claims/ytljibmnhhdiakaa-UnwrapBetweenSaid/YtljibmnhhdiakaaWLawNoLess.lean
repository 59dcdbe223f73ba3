import Derived.Test.YtljibmnhhdiakaaWgC
import Derived.Test.YtljibmnhhdiakaaWLawFlows
set_option linter.unusedSimpArgs false
set_option linter.unusedVariables false
namespace Go.Ix
open Go.Proofs
theorem x1zk:∀ {l:List Edge},fewE l=true→∀ e∈l,e.wt≤20∧-5≤e.jump∧e.jump≤5
 | [],_,e,he=>by cases he
 | x::r,h,e,he=>by
   unfold fewE at h
   by_cases c:20 < x.wt
   ·simp [c] at h
   ·by_cases c2:(5:Int) < (x.jump.natAbs:Int)
    ·simp [c,c2] at h
    ·simp [c,c2] at h
     rcases List.mem_cons.mp he with rfl | he
     ·omega
     ·exact x1zk h e he
theorem slim_of {n:Int} {l:List Edge} (h1:few n l=true) (h2:(x1mp n l).2=0):Slim 5 n.toNat l∧n=(n.toNat:Int):=by
 have hr:=x1t7 h2
 have hlo:=hr.lo
 unfold few at h1
 by_cases c1:10 < n
 ·simp [h2,c1] at h1
 ·by_cases c2:(16:Int) < (l.length:Int)
  ·simp [h2,c1,c2] at h1
  ·simp [h2,c1,c2] at h1
   have hf:=x1zk h1
   exact ⟨⟨by omega,by omega,by omega,by omega,inEdge hr,fun e he=>by have:=hf e he;omega⟩,by omega⟩
end Go.Ix
