import Derived.Test.YtljibmnhhdiakaaWgD
import Derived.Test.YtljibmnhhdiakaaWHas
import Derived.Test.YtljibmnhhdiakaaWLawNoLess
set_option linter.unusedSimpArgs false
set_option linter.unusedVariables false
namespace Go.Ix
open Go.Proofs
theorem slice_pre (l:List Int) (x:Bool) {k:Nat} (hk:k≤l.length):∃ a',Ints a' (l.take k)∧x1rc Try.prog x5 (.slit (l.flatMap intE) l.length x) none (some (I k))=some a':=by
 obtain ⟨i,hi,hs⟩:=x1y6
 have hl:=x1rv l
 refine ⟨.slit ((l.take k).flatMap intE) (l.take k).length (x&&decide ((k:Int)=(l.length:Int))),Sl.lit _ _,?_⟩
 have e1:x1q2 (.slit (l.flatMap intE) l.length x)=none:=_root_.id rfl
 have e2:asI (I (k:Int))=some (k:Int):=rfl
 have e3:asI (I 0)=some 0:=rfl
 unfold x1rc
 simp only [e1,x1pi,hi,Option.getD_some,Option.getD_none,e2,e3,hs,Nat.mul_one,Int.sub_zero,Int.toNat_natCast]
 rw [if_pos ⟨by omega,by omega,by omega,by omega⟩,List.length_take,Nat.min_eq_left hk,x1t9,x1t9,List.map_take]
 rfl
theorem first_of {P:List Int} {i:Nat} (hi:i < P.length) (h:(P.take i).any (fun y=>decide (y=at0 P i))=false):fst0 P i=i:=by
 obtain ⟨h1,h2⟩:=x215 hi
 apply Classical.byContradiction
 intro hne
 have hlt:fst0 P i < (P.take i).length:=by rw [List.length_take];omega
 have:=List.any_eq_false.mp h _ (List.getElem_mem hlt)
 rw [List.getElem_take] at this
 rw [x1pu (by omega)] at h2
 simp only [decide_eq_true_eq] at this
 exact this h2
end Go.Ix
