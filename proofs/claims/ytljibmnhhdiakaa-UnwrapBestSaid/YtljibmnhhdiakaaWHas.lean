import Derived.Test.YtljibmnhhdiakaaWTurns
set_option linter.unusedSimpArgs false
set_option linter.unusedVariables false
namespace Go.Ix
open Go.Proofs
theorem l_Has (d:Nat) (hs:FHs) {a:AV} {l:List Int} {x:Int} (h:Ints a l) (hl:l.length≤1000000) (u:Nat):∀ (suf:List Int) (k j:Nat) (m:Mem) (fc:Nat),l.drop k=suf→suf.length < j →
 x3b (x1pa d) hs u j a (I x) (I k) m fc=some (B (suf.any fun y=>decide (y=x)),m):=by
 intro suf
 induction suf with
 | nil=>
   intro k j m fc hd hj
   obtain ⟨j,rfl⟩:∃ i,j=i+1:=⟨j - 1,by simp at hj;omega⟩
   have hk:¬ ((k:Int) < (l.length:Int)):=by have:=List.drop_eq_nil_iff.mp hd;omega
   simp only [x3b]
   unfold xc0
   simp [h.len x1pi,hk,x51]
 | cons y r ih=>
   intro k j m fc hd hj
   obtain ⟨j,rfl⟩:∃ i,j=i+1:=⟨j - 1,by simp at hj;omega⟩
   obtain ⟨hk,hke,hd⟩:=x1qg hd
   have hk':(k:Int) < (l.length:Int):=by omega
   have ix:=h.ix x1pv hk
   have e1:at0 l k=y:=by rw [x1pu hk,hke]
   have ih':=ih (k+1) j m (fc+13) hd (by simp at hj;omega)
   simp only [x3b,List.any_cons]
   unfold xc0
   by_cases c:y=x
   ·simp (disch:=omega) [h.len x1pi,hk',ix,x1pr,e1,c]
   ·simp (disch:=omega) [h.len x1pi,hk',ix,x1pr,e1,c]
    simpa using ih'
theorem w_Has (d:Nat) {a:AV} {l:List Int} {x:Int} (h:Ints a l) (hl:l.length≤1000000) (m:Mem):x1pb (x1pa (d+1)) x4a [a,I x] m=some (B (l.any fun y=>decide (y=x)),m):=by
 refine Ans.call0 ?_ (by simp [h.still]) rfl
 unfold Ans
 refine ⟨⟨[],1⟩,?_⟩
 rw [xxp]
 exact l_Has d [] h hl 0 l 0 NN ⟨[],1⟩ 2 rfl (by rw [x1pp];omega)
end Go.Ix
