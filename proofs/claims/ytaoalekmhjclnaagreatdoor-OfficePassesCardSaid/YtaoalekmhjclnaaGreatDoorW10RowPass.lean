/- OfficePasses: for every input the law returns true, and its arguments read as they did. -/
import Derived.Test.YtaoalekmhjclnaaGreatDoorWg4
import Derived.Test.YtaoalekmhjclnaaGreatDoorW10LawPass
set_option maxRecDepth 100000
set_option linter.unusedVariables false
namespace Go.Proofs.YtaoalekmhjclnaaGreatDoor
open Go.ChangeShapes Go.WideShapes Go.ChangeAt Go.RowKit Go.Ix
theorem officePasses_lifted(os:Os)(started:os.Started)(H:Type)(enc:TypeId×Value->H) :
 ReturnsInHanded {} Tryz.checked os 5 .any (λw args=>(Rows.officePassesSpec.pre enc Tryz.prog Tryz.f5 Rows.officePassesRow.domain false w args/\laidMetH Tryz.prog laid10 w)/\sizedMet enc Tryz.prog Tryz.f5 (OpenSpec.ofChange Rows.officePassesSpec) false w args)
  (Rows.officePassesSpec.post enc Tryz.prog Tryz.f5 false true false false):=by
 refine returnsInHanded_of_change_and (C:=Tryz.checked) (X:=λw _=>laidMetH Tryz.prog laid10 w) (λ_ _ _ hh h=>h.of_heap hh) Tryz.own started (by kernel_rfl) Tryz.func5
  (ChangeSpec.witness_shaped (enc:=enc) (C:=Tryz.checked) (os:=os) (X:=λw _=>laidMetH Tryz.prog laid10 w) false (World.laidAll Tryz.prog os laid10) #[.agg #[.slice none 0 0,.slice none 0 0,.int .i64 0,.int .i64 0],.slice none 0 0] 8 (World.laidAll_os _ _ _)
   (World.shaped_of_ZipB (by kernel_rfl) (by kernel_rfl)) (by kernel_rfl) (by kernel_rfl) (by kernel_rfl) (laid_met os _)) ?_
 intro W base args ds gs before hval0 hW hcnd _ hL _
 have hval:∀(j:Nat) t v,Tryz.f5.params[j]?=some t->args[j]?=some v->Value.okWide Tryz.prog W .any base t v:=hval0
 have hW':=hW
 obtain⟨p,q,hA0,hV,rfl,hfz,hnd⟩:=hW
 have hA:DataW.TrodAll enc Tryz.prog W 0 (λ_=>true) true Tryz.f5.params.toList args.toList ds p:=hA0
 rw[Tryz.params5]at hA hval
 obtain⟨v0,v1,d0,d1,p0,p1,rfl,rfl,rfl,t0,t1⟩:=trodAll_two hA
 obtain⟨rfl,rfl⟩:=trodVars_none hV
 obtain⟨a0,s0,w0⟩:=arg_open (k:=5) (by kernel_rfl) (hval 0 _ v0 rfl rfl) t0
 obtain⟨a1,s1,w1⟩:=arg_open (k:=5) (by kernel_rfl) (hval 1 _ v1 rfl rfl) t1
 obtain⟨pa0,li0,gap0,sto0,l0,kl0,rfl,h0,g0,b0⟩:=plan_in s0
 obtain⟨l1,h1⟩:=ints_in s1
 obtain⟨m',hm⟩:=law_OfficePasses b0 h0 g0 gap0 sto0 h1
 refine(calls_of_T told_ok (vs:=#[v0,v1]) (w:=W) hm rfl (known_laid hL) λi a v ha hv=>?_).mono λe W' ⟨he,hx⟩=>?_
 .match i with
  |0=>simp at ha hv;subst ha hv;exact w0
  |1=>simp at ha hv;subst ha hv;exact w1
  |i+2=>simp at ha
 subst he
 exact⟨_,rfl,law_post (tb:=x8t) hW' hx rfl rfl rfl (by kernel_rfl) Tryz.laidOut (by
  rw[Tryz.params5]
  intro t ht
  simp only[x1oj,List.not_mem_nil,or_false]at ht
  rcases ht with rfl|rfl<;>exact⟨by kernel_rfl,x1pn (by kernel_rfl)⟩)⟩
theorem officePasses_k1:(Rows.officePassesRow.inPlace == Tryz.prog.inPlace 5)=true:=by kernel_rfl
theorem officePasses_k2:(Rows.officePassesRow.unfollowed == Tryz.prog.unfollowed 5)=true:=by kernel_rfl
theorem officePasses_k3:(Rows.officePassesRow.recurses == Tryz.prog.recurses 5)=true:=by kernel_rfl
theorem officePasses_k4:(Rows.officePassesRow.named == Tryz.prog.varsNamed 5)=true:=by kernel_rfl
theorem officePasses_wf:Rows.officePassesRow.wf (OpenSpec.ofChange Rows.officePassesSpec)=true:=by kernel_rfl
theorem officePasses_facts:joinedFacts Tryz.prog 5 Tryz.f5 Rows.officePassesSpec Rows.officePassesRow=true:=by
 unfold joinedFacts
 rw[officePasses_wf,officePasses_k1,officePasses_k2,officePasses_k3,officePasses_k4,Tryz.laidOut,mapsRowed10]
 kernel_rfl
theorem officePasses_named:Tryz.prog.funcNamed "swath/swathlaw10.OfficePasses" = some 5:=by kernel_rfl
theorem officePasses_said:Rows.OfficePassesSaid:=
 OpenClaim.holds_of_wide 5 Tryz.f5 rfl rfl rfl rfl rfl rfl rfl ⟨rfl,rfl,rfl,rfl,rfl⟩ rfl rfl rfl rfl rfl officePasses_named Tryz.func5 officePasses_facts
  (x1pn (by kernel_rfl)) (by unfold Func.isWrapper;first|(rw[x1nx (by decide +kernel)];kernel_rfl)|(rw[x1ny (by decide +kernel)];exact⟨rfl,rfl⟩))
  (λos started H enc _=>officePasses_lifted os started H enc)
theorem officePasses_wft:Rows.officePassesRow.wfByText (OpenSpec.ofChange Rows.officePassesSpec)=true:=by kernel_rfl
theorem officePasses_main:Tryz.prog.mainIs=some (true,"5aab990060fefa0e9373072f095bc5000b0d4b2f27c0bff114828a685ec94803".toList):=by kernel_rfl
theorem officePasses_goes:false=Rows.officePassesRow.goesBy Tryz.prog:=by kernel_rfl
theorem officePasses_holds:Rows.OfficePassesCardSaid:=
 Claim7.holds_tied_plain_at .later [] [.data,.data,.data,.data,.sentinel,.sentinel,.pinned] true (true,"5aab990060fefa0e9373072f095bc5000b0d4b2f27c0bff114828a685ec94803") true
  officePasses_said (λ_ h=>by cases h) officePasses_wft (λ_ h=>by cases h) officePasses_row_tie rfl ⟨rfl,rfl⟩ officePasses_main rfl
  (λf fn hf hfn=>by
   obtain rfl:f=5:=x1pf (officePasses_named.symm.trans hf) |>.symm
   obtain rfl:fn=Tryz.f5:=(x1pf (Tryz.func5.symm.trans hfn)).symm
   exact⟨looks10,λj t ht=>by
    rw[Tryz.params5]at ht
    have hm:t∈[45,39]:=by simpa using x1qj ht
    have hall:([45,39].all λu=>!Tryz.prog.wantsStandIn u)=true:=by kernel_rfl
    exact(show Tryz.prog.wantsStandIn t=false by simpa using x1o3.1 hall t hm)⟩)
  officePasses_goes
end Go.Proofs.YtaoalekmhjclnaaGreatDoor
