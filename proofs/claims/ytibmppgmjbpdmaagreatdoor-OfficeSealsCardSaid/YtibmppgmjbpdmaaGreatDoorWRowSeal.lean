/- OfficeSeals: for every input the law returns true, and its arguments read as they did. -/
import Derived.Test.YtibmppgmjbpdmaaGreatDoorWg13
import Derived.Test.YtibmppgmjbpdmaaGreatDoorWg18
set_option maxRecDepth 100000
set_option linter.unusedVariables false
namespace Go.Proofs.YtibmppgmjbpdmaaGreatDoor
open Go.ChangeShapes Go.WideShapes Go.ChangeAt Go.RowKit Go.Ix
theorem officeSeals_lifted(os:Os)(started:os.Started)(H:Type)(enc:TypeId×Value->H) :
 ReturnsInHanded {} Tryz.checked os 3 .any (λw args=>(Rows.officeSealsSpec.pre enc Tryz.prog Tryz.f3 Rows.officeSealsRow.domain false w args/\laidMetH Tryz.prog laid10 w)/\sizedMet enc Tryz.prog Tryz.f3 (OpenSpec.ofChange Rows.officeSealsSpec) false w args)
  (Rows.officeSealsSpec.post enc Tryz.prog Tryz.f3 false true false false):=by
 refine returnsInHanded_of_change_and (C:=Tryz.checked) (X:=λw _=>laidMetH Tryz.prog laid10 w) (λ_ _ _ hh h=>h.of_heap hh) Tryz.own started (by kernel_rfl) Tryz.func3
  (ChangeSpec.witness_shaped (enc:=enc) (C:=Tryz.checked) (os:=os) (X:=λw _=>laidMetH Tryz.prog laid10 w) false (World.laidAll Tryz.prog os laid10) #[.slice none 0 0,.string ⟨#[]⟩] 8 (World.laidAll_os _ _ _)
   (World.shaped_of_ZipB (by kernel_rfl) (by kernel_rfl)) (by kernel_rfl) (by kernel_rfl) (by kernel_rfl) (laid_met os _)) ?_
 intro W base args ds gs before hval0 hW hcnd _ hL _
 have hval:∀(j:Nat) t v,Tryz.f3.params[j]?=some t->args[j]?=some v->Value.okWide Tryz.prog W .any base t v:=hval0
 have hW':=hW
 obtain⟨p,q,hA0,hV,rfl,hfz,hnd⟩:=hW
 have hA:DataW.TrodAll enc Tryz.prog W 0 (λ_=>true) true Tryz.f3.params.toList args.toList ds p:=hA0
 rw[Tryz.params3]at hA hval
 obtain⟨v0,v1,d0,d1,p0,p1,rfl,rfl,rfl,t0,t1⟩:=trodAll_two hA
 obtain⟨rfl,rfl⟩:=trodVars_none hV
 obtain⟨a0,s0,w0⟩:=arg_open (k:=5) (by kernel_rfl) (hval 0 _ v0 rfl rfl) t0
 obtain⟨a1,s1,w1⟩:=arg_open (k:=5) (by kernel_rfl) (hval 1 _ v1 rfl rfl) t1
 obtain⟨l0,h0,g0⟩:=log_in s0
 obtain⟨n1,rfl⟩:=textE_in s1
 obtain⟨m',hm⟩:=law_OfficeSeals h0 g0 n1
 refine(calls_of_T told_ok (vs:=#[v0,v1]) (w:=W) hm rfl (known_laid hL) λi a v ha hv=>?_).mono λe W' ⟨he,hx⟩=>?_
 .match i with
  |0=>simp at ha hv;subst ha hv;exact w0
  |1=>simp at ha hv;subst ha hv;exact w1
  |i+2=>simp at ha
 subst he
 exact⟨_,rfl,law_post (tb:=x92) hW' hx rfl rfl rfl (by kernel_rfl) Tryz.laidOut (by
  rw[Tryz.params3]
  intro t ht
  simp only[x1sa,List.not_mem_nil,or_false]at ht
  rcases ht with rfl|rfl<;>exact⟨by kernel_rfl,x1tp (by kernel_rfl)⟩)⟩
theorem officeSeals_k1:(Rows.officeSealsRow.inPlace == Tryz.prog.inPlace 3)=true:=by kernel_rfl
theorem officeSeals_k2:(Rows.officeSealsRow.unfollowed == Tryz.prog.unfollowed 3)=true:=by kernel_rfl
theorem officeSeals_k3:(Rows.officeSealsRow.recurses == Tryz.prog.recurses 3)=true:=by kernel_rfl
theorem officeSeals_k4:(Rows.officeSealsRow.named == Tryz.prog.varsNamed 3)=true:=by kernel_rfl
theorem officeSeals_wf:Rows.officeSealsRow.wf (OpenSpec.ofChange Rows.officeSealsSpec)=true:=by kernel_rfl
theorem officeSeals_facts:joinedFacts Tryz.prog 3 Tryz.f3 Rows.officeSealsSpec Rows.officeSealsRow=true:=by
 unfold joinedFacts
 rw[officeSeals_wf,officeSeals_k1,officeSeals_k2,officeSeals_k3,officeSeals_k4,Tryz.laidOut,mapsRowed10]
 kernel_rfl
theorem officeSeals_named:Tryz.prog.funcNamed "swath/swathlaw10.OfficeSeals" = some 3:=by kernel_rfl
theorem officeSeals_said:Rows.OfficeSealsSaid:=
 OpenClaim.holds_of_wide 3 Tryz.f3 rfl rfl rfl rfl rfl rfl rfl ⟨rfl,rfl,rfl,rfl,rfl⟩ rfl rfl rfl rfl rfl officeSeals_named Tryz.func3 officeSeals_facts
  (x1tp (by kernel_rfl)) (by unfold Func.isWrapper;first|(rw[x1rq (by decide +kernel)];kernel_rfl)|(rw[x1rr (by decide +kernel)];exact⟨rfl,rfl⟩))
  (λos started H enc _=>officeSeals_lifted os started H enc)
theorem officeSeals_wft:Rows.officeSealsRow.wfByText (OpenSpec.ofChange Rows.officeSealsSpec)=true:=by kernel_rfl
theorem officeSeals_main:Tryz.prog.mainIs=some (true,"8bdf51cd79bbabcbd177c287fa99b034962e272d9d17b960d66423984ca26721".toList):=by kernel_rfl
theorem officeSeals_goes:false=Rows.officeSealsRow.goesBy Tryz.prog:=by kernel_rfl
theorem officeSeals_holds:Rows.OfficeSealsCardSaid:=
 Claim7.holds_tied_plain_at .later [] [.data,.data,.data,.data,.sentinel,.sentinel,.pinned] true (true,"8bdf51cd79bbabcbd177c287fa99b034962e272d9d17b960d66423984ca26721") true
  officeSeals_said (λ_ h=>by cases h) officeSeals_wft (λ_ h=>by cases h) officeSeals_row_tie rfl ⟨rfl,rfl⟩ officeSeals_main rfl
  (λf fn hf hfn=>by
   obtain rfl:f=3:=x1st (officeSeals_named.symm.trans hf) |>.symm
   obtain rfl:fn=Tryz.f3:=(x1st (Tryz.func3.symm.trans hfn)).symm
   exact⟨looks10,λj t ht=>by
    rw[Tryz.params3]at ht
    have hm:t∈[22,9]:=by simpa using x1us ht
    have hall:([22,9].all λu=>!Tryz.prog.wantsStandIn u)=true:=by kernel_rfl
    exact(show Tryz.prog.wantsStandIn t=false by simpa using x1ry.1 hall t hm)⟩)
  officeSeals_goes
end Go.Proofs.YtibmppgmjbpdmaaGreatDoor
