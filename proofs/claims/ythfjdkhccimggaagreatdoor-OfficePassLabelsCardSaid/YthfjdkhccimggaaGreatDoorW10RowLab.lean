/- OfficePassLabels: for every input the law returns true, and its arguments read as they did. -/
import Derived.Test.YthfjdkhccimggaaGreatDoorWg5
import Derived.Test.YthfjdkhccimggaaGreatDoorWg11
set_option maxRecDepth 100000
set_option linter.unusedVariables false
namespace Go.Proofs.YthfjdkhccimggaaGreatDoor
open Go.ChangeShapes Go.WideShapes Go.ChangeAt Go.RowKit Go.Ix
theorem officePassLabels_lifted(os:Os)(started:os.Started)(H:Type)(enc:TypeId×Value->H) :
 ReturnsInHanded {} Tryz.checked os 7 .any (λw args=>(Rows.officePassLabelsSpec.pre enc Tryz.prog Tryz.f7 Rows.officePassLabelsRow.domain false w args/\laidMetH Tryz.prog laid10 w)/\sizedMet enc Tryz.prog Tryz.f7 (OpenSpec.ofChange Rows.officePassLabelsSpec) false w args)
  (Rows.officePassLabelsSpec.post enc Tryz.prog Tryz.f7 false true false false):=by
 refine returnsInHanded_of_change_and (C:=Tryz.checked) (X:=λw _=>laidMetH Tryz.prog laid10 w) (λ_ _ _ hh h=>h.of_heap hh) Tryz.own started (by kernel_rfl) Tryz.func7
  (ChangeSpec.witness_shaped (enc:=enc) (C:=Tryz.checked) (os:=os) (X:=λw _=>laidMetH Tryz.prog laid10 w) false (World.laidAll Tryz.prog os laid10) #[.agg #[.slice none 0 0,.slice none 0 0,.int .i64 0,.int .i64 0],.slice none 0 0,.slice none 0 0] 8 (World.laidAll_os _ _ _)
   (World.shaped_of_ZipB (by kernel_rfl) (by kernel_rfl)) (by kernel_rfl) (by kernel_rfl) (by kernel_rfl) (laid_met os _)) ?_
 intro W base args ds gs before hval0 hW hcnd _ hL _
 have hval:∀(j:Nat) t v,Tryz.f7.params[j]?=some t->args[j]?=some v->Value.okWide Tryz.prog W .any base t v:=hval0
 have hW':=hW
 obtain⟨p,q,hA0,hV,rfl,hfz,hnd⟩:=hW
 have hA:DataW.TrodAll enc Tryz.prog W 0 (λ_=>true) true Tryz.f7.params.toList args.toList ds p:=hA0
 rw[Tryz.params7]at hA hval
 obtain⟨v0,v1,v2,d0,d1,d2,p0,p1,p2,rfl,rfl,rfl,t0,t1,t2⟩:=trodAll_three hA
 obtain⟨rfl,rfl⟩:=trodVars_none hV
 obtain⟨a0,s0,w0⟩:=arg_open (k:=5) (by kernel_rfl) (hval 0 _ v0 rfl rfl) t0
 obtain⟨a1,s1,w1⟩:=arg_open (k:=5) (by kernel_rfl) (hval 1 _ v1 rfl rfl) t1
 obtain⟨a2,s2,w2⟩:=arg_open (k:=5) (by kernel_rfl) (hval 2 _ v2 rfl rfl) t2
 obtain⟨pa0,li0,gap0,sto0,l0,kl0,rfl,h0,g0,b0⟩:=plan_in s0
 obtain⟨l1,h1⟩:=ints_in s1
 obtain⟨l2,h2⟩:=ints_in s2
 obtain⟨m',hm⟩:=law_OfficePassLabels b0 h0 g0 gap0 sto0 h1 h2
 refine(calls_of_T told_ok (vs:=#[v0,v1,v2]) (w:=W) hm rfl (known_laid hL) λi a v ha hv=>?_).mono λe W' ⟨he,hx⟩=>?_
 .match i with
  |0=>simp at ha hv;subst ha hv;exact w0
  |1=>simp at ha hv;subst ha hv;exact w1
  |2=>simp at ha hv;subst ha hv;exact w2
  |i+3=>simp at ha
 subst he
 exact⟨_,rfl,law_post (tb:=x8a) hW' hx rfl rfl rfl (by kernel_rfl) Tryz.laidOut (by
  rw[Tryz.params7]
  intro t ht
  simp only[x1mk,List.not_mem_nil,or_false]at ht
  rcases ht with rfl|rfl|rfl<;>exact⟨by kernel_rfl,x1ns (by kernel_rfl)⟩)⟩
theorem officePassLabels_k1:(Rows.officePassLabelsRow.inPlace == Tryz.prog.inPlace 7)=true:=by kernel_rfl
theorem officePassLabels_k2:(Rows.officePassLabelsRow.unfollowed == Tryz.prog.unfollowed 7)=true:=by kernel_rfl
theorem officePassLabels_k3:(Rows.officePassLabelsRow.recurses == Tryz.prog.recurses 7)=true:=by kernel_rfl
theorem officePassLabels_k4:(Rows.officePassLabelsRow.named == Tryz.prog.varsNamed 7)=true:=by kernel_rfl
theorem officePassLabels_wf:Rows.officePassLabelsRow.wf (OpenSpec.ofChange Rows.officePassLabelsSpec)=true:=by kernel_rfl
theorem officePassLabels_facts:joinedFacts Tryz.prog 7 Tryz.f7 Rows.officePassLabelsSpec Rows.officePassLabelsRow=true:=by
 unfold joinedFacts
 rw[officePassLabels_wf,officePassLabels_k1,officePassLabels_k2,officePassLabels_k3,officePassLabels_k4,Tryz.laidOut,mapsRowed10]
 kernel_rfl
theorem officePassLabels_named:Tryz.prog.funcNamed "swath/swathlaw10.OfficePassLabels" = some 7:=by kernel_rfl
theorem officePassLabels_said:Rows.OfficePassLabelsSaid:=
 OpenClaim.holds_of_wide 7 Tryz.f7 rfl rfl rfl rfl rfl rfl rfl ⟨rfl,rfl,rfl,rfl,rfl⟩ rfl rfl rfl rfl rfl officePassLabels_named Tryz.func7 officePassLabels_facts
  (x1ns (by kernel_rfl)) (by unfold Func.isWrapper;first|(rw[x1m3 (by decide +kernel)];kernel_rfl)|(rw[x1m4 (by decide +kernel)];exact⟨rfl,rfl⟩))
  (λos started H enc _=>officePassLabels_lifted os started H enc)
theorem officePassLabels_wft:Rows.officePassLabelsRow.wfByText (OpenSpec.ofChange Rows.officePassLabelsSpec)=true:=by kernel_rfl
theorem officePassLabels_main:Tryz.prog.mainIs=some (true,"61e83f9224e7446a63ccaabdf4d97d1b98015f092d589035354785c65d967016".toList):=by kernel_rfl
theorem officePassLabels_goes:false=Rows.officePassLabelsRow.goesBy Tryz.prog:=by kernel_rfl
theorem officePassLabels_holds:Rows.OfficePassLabelsCardSaid:=
 Claim7.holds_tied_plain_at .later [] [.data,.data,.data,.data,.sentinel,.sentinel,.pinned] true (true,"61e83f9224e7446a63ccaabdf4d97d1b98015f092d589035354785c65d967016") true
  officePassLabels_said (λ_ h=>by cases h) officePassLabels_wft (λ_ h=>by cases h) officePassLabels_row_tie rfl ⟨rfl,rfl⟩ officePassLabels_main rfl
  (λf fn hf hfn=>by
   obtain rfl:f=7:=x1nl (officePassLabels_named.symm.trans hf) |>.symm
   obtain rfl:fn=Tryz.f7:=(x1nl (Tryz.func7.symm.trans hfn)).symm
   exact⟨looks10,λj t ht=>by
    rw[Tryz.params7]at ht
    have hm:t∈[83,31,31]:=by simpa using x1on ht
    have hall:([83,31,31].all λu=>!Tryz.prog.wantsStandIn u)=true:=by kernel_rfl
    exact(show Tryz.prog.wantsStandIn t=false by simpa using x1m9.1 hall t hm)⟩)
  officePassLabels_goes
end Go.Proofs.YthfjdkhccimggaaGreatDoor
