/- UnwrapNets: for every input the law returns true, and its arguments read as they did. -/
import Derived.Test.YtacloojepepcfaaGreatDoorWg13
import Derived.Test.YtacloojepepcfaaGreatDoorWg18
set_option maxRecDepth 100000
set_option linter.unusedVariables false
namespace Go.Proofs.YtacloojepepcfaaGreatDoor
open Go.ChangeShapes Go.WideShapes Go.ChangeAt Go.RowKit Go.Ix
theorem unwrapNets_lifted(os:Os)(started:os.Started)(H:Type)(enc:TypeId×Value->H) :
 ReturnsInHanded {} Tryz.checked os 3 .any (λw args=>(Rows.unwrapNetsSpec.pre enc Tryz.prog Tryz.f3 Rows.unwrapNetsRow.domain false w args/\laidMetH Tryz.prog laid10 w)/\sizedMet enc Tryz.prog Tryz.f3 (OpenSpec.ofChange Rows.unwrapNetsSpec) false w args)
  (Rows.unwrapNetsSpec.post enc Tryz.prog Tryz.f3 false true false false):=by
 refine returnsInHanded_of_change_and (C:=Tryz.checked) (X:=λw _=>laidMetH Tryz.prog laid10 w) (λ_ _ _ hh h=>h.of_heap hh) Tryz.own started (by kernel_rfl) Tryz.func3
  (ChangeSpec.witness_shaped (enc:=enc) (C:=Tryz.checked) (os:=os) (X:=λw _=>laidMetH Tryz.prog laid10 w) false (World.laidAll Tryz.prog os laid10) #[.agg #[.int .i64 0,.slice none 0 0],.string ⟨#[]⟩] 8 (World.laidAll_os _ _ _)
   (World.shaped_of_ZipB (by kernel_rfl) (by kernel_rfl)) (by kernel_rfl) (by kernel_rfl) (by kernel_rfl) (laid_met os _)) ?_
 intro W base args ds gs before hval0 hW hcnd _ hL _
 have hval:∀(j:Nat) t v,Tryz.f3.params[j]?=some t->args[j]?=some v->Value.okWide Tryz.prog W .any base t v:=hval0
 have hW':=hW
 obtain⟨p,q,hA0,hV,rfl,hfz,hnd⟩:=hW
 have hA:DataW.TrodAll enc Tryz.prog W 0 (λ_=>true) true Tryz.f3.params.toList args.toList ds p:=hA0
 rw[Tryz.params3]at hA hval
 obtain⟨v0,v1,d0,d1,p0,p1,rfl,rfl,rfl,t0,t1⟩:=trodAll_two hA
 obtain⟨rfl,rfl⟩:=trodVars_none hV
 obtain⟨a0,s0,w0⟩:=arg_open (k:=5) (by kernel_rfl) (hval 0 _ v0 rfl rfl) t0
 obtain⟨a1,s1,w1⟩:=arg_open (k:=5) (by kernel_rfl) (hval 1 _ v1 rfl rfl) t1
 obtain⟨n0,ev0,l0,rfl,h0,g0,b0⟩:=net_in s0
 obtain⟨n1,rfl⟩:=text_in s1
 obtain⟨m',hm⟩:=law_UnwrapNets h0 g0 b0 n1
 refine(calls_of_T told_ok (vs:=#[v0,v1]) (w:=W) hm rfl (known_laid hL) λi a v ha hv=>?_).mono λe W' ⟨he,hx⟩=>?_
 .match i with
  |0=>simp at ha hv;subst ha hv;exact w0
  |1=>simp at ha hv;subst ha hv;exact w1
  |i+2=>simp at ha
 subst he
 exact⟨_,rfl,law_post (tb:=xi3) hW' hx rfl rfl rfl (by kernel_rfl) Tryz.laidOut (by
  rw[Tryz.params3]
  intro t ht
  simp only[x186,x1bd,or_false]at ht
  rcases ht with rfl|rfl<;>exact⟨by kernel_rfl,x19f (by kernel_rfl)⟩)⟩
theorem unwrapNets_k1:(Rows.unwrapNetsRow.inPlace == Tryz.prog.inPlace 3)=true:=by kernel_rfl
theorem unwrapNets_k2:(Rows.unwrapNetsRow.unfollowed == Tryz.prog.unfollowed 3)=true:=by kernel_rfl
theorem unwrapNets_k3:(Rows.unwrapNetsRow.recurses == Tryz.prog.recurses 3)=true:=by kernel_rfl
theorem unwrapNets_k4:(Rows.unwrapNetsRow.named == Tryz.prog.varsNamed 3)=true:=by kernel_rfl
theorem unwrapNets_wf:Rows.unwrapNetsRow.wf (OpenSpec.ofChange Rows.unwrapNetsSpec)=true:=by kernel_rfl
theorem unwrapNets_facts:joinedFacts Tryz.prog 3 Tryz.f3 Rows.unwrapNetsSpec Rows.unwrapNetsRow=true:=by
 unfold joinedFacts
 rw[unwrapNets_wf,unwrapNets_k1,unwrapNets_k2,unwrapNets_k3,unwrapNets_k4,Tryz.laidOut,mapsRowed10]
 kernel_rfl
theorem unwrapNets_named:Tryz.prog.funcNamed "swath/swathlaw05.UnwrapNets" = some 3:=by kernel_rfl
theorem unwrapNets_said:Rows.UnwrapNetsSaid:=
 OpenClaim.holds_of_wide 3 Tryz.f3 rfl rfl rfl rfl rfl rfl rfl ⟨rfl,rfl,rfl,rfl,rfl⟩ rfl rfl rfl rfl rfl unwrapNets_named Tryz.func3 unwrapNets_facts
  (x19f (by kernel_rfl)) (by unfold Func.isWrapper;first|(rw[x17u (by decide +kernel)];kernel_rfl)|(rw[x17t (by decide +kernel)];exact⟨rfl,rfl⟩))
  (λos started H enc _=>unwrapNets_lifted os started H enc)
theorem unwrapNets_wft:Rows.unwrapNetsRow.wfByText (OpenSpec.ofChange Rows.unwrapNetsSpec)=true:=by kernel_rfl
theorem unwrapNets_main:Tryz.prog.mainIs=some (true,"952feaee2d20e00ed94af359b8115775dc8ead78b74a869f7059b128b4d10bb1".toList):=by kernel_rfl
theorem unwrapNets_goes:false=Rows.unwrapNetsRow.goesBy Tryz.prog:=by kernel_rfl
theorem unwrapNets_holds:Rows.UnwrapNetsCardSaid:=
 Claim7.holds_tied_plain_at .later [] [.data,.data,.data,.data,.sentinel,.sentinel,.pinned] true (true,"952feaee2d20e00ed94af359b8115775dc8ead78b74a869f7059b128b4d10bb1") true
  unwrapNets_said (λ_ h=>by cases h) unwrapNets_wft (λ_ h=>by cases h) unwrapNets_row_tie rfl ⟨rfl,rfl⟩ unwrapNets_main rfl
  (λf fn hf hfn=>by
   obtain rfl:f=3:=x198 (unwrapNets_named.symm.trans hf) |>.symm
   obtain rfl:fn=Tryz.f3:=(x198 (Tryz.func3.symm.trans hfn)).symm
   exact⟨looks10,λj t ht=>by
    rw[Tryz.params3]at ht
    have hm:t∈[24,9]:=by simpa using x1ax ht
    have hall:([24,9].all λu=>!Tryz.prog.wantsStandIn u)=true:=by kernel_rfl
    exact(show Tryz.prog.wantsStandIn t=false by simpa using x181.1 hall t hm)⟩)
  unwrapNets_goes
end Go.Proofs.YtacloojepepcfaaGreatDoor
