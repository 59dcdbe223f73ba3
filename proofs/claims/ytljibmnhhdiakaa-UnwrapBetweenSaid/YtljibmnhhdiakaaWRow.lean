import Derived.Test.YtljibmnhhdiakaaRows
import Derived.Test.YtljibmnhhdiakaaFxLaw
import Derived.Test.YtljibmnhhdiakaaWTurns
set_option maxRecDepth 100000
namespace Go.Proofs.Ytljibmnhhdiakaa
open Go.ChangeShapes Go.WideShapes Go.ChangeAt Go.RowKit Go.Ix
theorem Try.own:ownKnob Try.prog.godebug=none:=by kernel_rfl
theorem Try.laidOut:laidOutB Try.prog=true:=by kernel_rfl
theorem int_in {a:AV} (h:ArgSh Try.prog 3 a):∃ n,a=I n∧(Lit.int .i64 n).wf=true:=by
 exact h.int Try.underlying3
theorem net_in {a:AV} (h:ArgSh Try.prog 24 a):∃ n ev l,a=.agg [I n,ev]∧Sl Edge.c ev l:=by
 obtain ⟨q,rfl,hq⟩:=h.struct Try.underlying24
 obtain ⟨hl,hf⟩:=Sh.struct_inv Try.underlying24 hq
 have hc:Try.prog.cellsOf 24=2:=by kernel_rfl
 have hc3:Try.prog.cellsOf 3=1:=by kernel_rfl
 have hc22:Try.prog.cellsOf 22=1:=by kernel_rfl
 have hc94:Try.prog.cellsOf 94=4:=by kernel_rfl
 rw [hc] at hl
 match q,hl with
 | [x,y],_=>
   simp only [List.mem_cons,forall_eq_or_imp] at hf
   obtain ⟨f0,f1,-⟩:=hf
   simp only [hc3,hc22,List.drop_zero,List.take_succ_cons,List.take_zero,List.drop_succ_cons] at f0 f1
   obtain ⟨n,h1,-⟩:=Sh.int_inv Try.underlying3 f0
   simp at h1
   subst h1
   rcases Sh.slice_inv Try.underlying22 f1 with h1 | ⟨rows,b,h1,h2,h3,h4⟩
   ·simp at h1;subst h1
    exact ⟨n,_,[],rfl,Or.inl ⟨rfl,rfl⟩⟩
   ·obtain ⟨l,rfl⟩:=x1xx (enc:=Edge.c) fun r hr=>by
     obtain ⟨hl',hf'⟩:=Sh.struct_inv Try.underlying94 (h3 r hr)
     rw [hc94] at hl'
     match r,hl' with
     | [x0,x1,x2,x3],_=>
       simp only [List.mem_cons,forall_eq_or_imp] at hf'
       obtain ⟨g0,g1,g2,g3,-⟩:=hf'
       simp only [hc3,List.drop_zero,List.take_succ_cons,List.take_zero,List.drop_succ_cons] at g0 g1 g2 g3
       obtain ⟨n0,e0,-⟩:=Sh.int_inv Try.underlying3 g0
       obtain ⟨n1,e1,-⟩:=Sh.int_inv Try.underlying3 g1
       obtain ⟨n2,e2,-⟩:=Sh.int_inv Try.underlying3 g2
       obtain ⟨n3,e3,-⟩:=Sh.int_inv Try.underlying3 g3
       simp at e0 e1 e2 e3
       subst e0 e1 e2 e3
       exact ⟨⟨n0,n1,n2,n3⟩,rfl⟩
    simp at h1;subst h1
    exact ⟨n,_,l,rfl,Or.inr ⟨b,by simp [List.flatMap]⟩⟩
end Go.Proofs.Ytljibmnhhdiakaa
