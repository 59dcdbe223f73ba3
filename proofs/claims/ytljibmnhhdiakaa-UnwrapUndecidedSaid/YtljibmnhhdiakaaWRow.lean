import Derived.Test.YtljibmnhhdiakaaRows
import Derived.Test.YtljibmnhhdiakaaFxLaw
import Derived.Test.YtljibmnhhdiakaaWTurns
set_option maxRecDepth 100000
namespace Go.Proofs.Ytljibmnhhdiakaa
open Go.ChangeShapes Go.WideShapes Go.ChangeAt Go.RowKit Go.Ix
theorem Try.own:ownKnob Try.prog.godebug=none:=by kernel_rfl
theorem Try.laidOut:laidOutB Try.prog=true:=by kernel_rfl
theorem x205{z:AV}(f:Sh Try.prog 27 [z]):∃l,Sl intE z l:=by
 rcases Sh.slice_inv Try.underlying27 f with h1|⟨rows,x,h1,h2,h3,h4⟩
 .simp at h1;exact⟨[],Or.inl ⟨h1,rfl⟩⟩
 .obtain⟨l,rfl⟩:=x24j (enc:=intE) fun r hr=>by
   obtain⟨n,h5,-⟩:=Sh.int_inv Try.underlying3 (h3 r hr)
   exact⟨n,h5⟩
  simp at h1
  exact⟨l,Or.inr ⟨x,by simpa[List.flatMap]using h1⟩⟩
theorem map_in{a:AV}(h:ArgSh Try.prog 38 a):∃r c p l,a=.agg [I r,I c,p]/\Sl intE p l:=by
 obtain⟨q,rfl,hq⟩:=h.struct Try.underlying38
 obtain⟨hl,hf⟩:=Sh.struct_inv Try.underlying38 hq
 have hc:Try.prog.cellsOf 38=3:=by kernel_rfl
 have hc3:Try.prog.cellsOf 3=1:=by kernel_rfl
 have hc27:Try.prog.cellsOf 27=1:=by kernel_rfl
 rw[hc]at hl
 match q,hl with
 |[x,y,z],_=>
  simp only[List.mem_cons,forall_eq_or_imp]at hf
  obtain⟨f0,f1,f2,-⟩:=hf
  simp only[hc3,hc27,List.drop_zero,List.take_succ_cons,List.take_zero,List.drop_succ_cons]at f0 f1 f2
  obtain⟨r,h1,-⟩:=Sh.int_inv Try.underlying3 f0
  obtain⟨c,h2,-⟩:=Sh.int_inv Try.underlying3 f1
  simp at h1 h2
  subst h1 h2
  obtain⟨l,hl⟩:=x205 f2
  exact⟨r,c,z,l,rfl,hl⟩
theorem task_in{a:AV}(h:ArgSh Try.prog 40 a):∃r c p x y ph ac dn,a=.agg [I r,I c,p,x,y]/\Sl intE p ph/\Sl intE x ac/\Sl intE y dn:=by
 obtain⟨q,rfl,hq⟩:=h.struct Try.underlying40
 obtain⟨hl,hf⟩:=Sh.struct_inv Try.underlying40 hq
 have hc:Try.prog.cellsOf 40=5:=by kernel_rfl
 have hc3:Try.prog.cellsOf 3=1:=by kernel_rfl
 have hc27:Try.prog.cellsOf 27=1:=by kernel_rfl
 have hc38:Try.prog.cellsOf 38=3:=by kernel_rfl
 rw[hc]at hl
 match q,hl with
 |[x0,x1,x2,x3,x4],_=>
  simp only[List.mem_cons,forall_eq_or_imp]at hf
  obtain⟨f0,f1,f2,-⟩:=hf
  simp only[hc38,hc27,List.drop_zero,List.take_succ_cons,List.take_zero,List.drop_succ_cons]at f0 f1 f2
  obtain⟨hl',hf'⟩:=Sh.struct_inv Try.underlying38 f0
  simp only[List.mem_cons,forall_eq_or_imp]at hf'
  obtain⟨g0,g1,g2,-⟩:=hf'
  simp only[hc3,hc27,List.drop_zero,List.take_succ_cons,List.take_zero,List.drop_succ_cons]at g0 g1 g2
  obtain⟨r,h1,-⟩:=Sh.int_inv Try.underlying3 g0
  obtain⟨c,h2,-⟩:=Sh.int_inv Try.underlying3 g1
  simp at h1 h2
  subst h1 h2
  obtain⟨l0,hl0⟩:=x205 g2
  obtain⟨l1,hl1⟩:=x205 f1
  obtain⟨l2,hl2⟩:=x205 f2
  exact⟨r,c,x2,x3,x4,l0,l1,l2,rfl,hl0,hl1,hl2⟩
end Go.Proofs.Ytljibmnhhdiakaa
