/- OfficeRecovers: for every input the law returns true, and its arguments read as they did. -/
import Derived.Test.YtibmppgmjbpdmaaGreatDoorWg12
import Derived.Test.YtibmppgmjbpdmaaGreatDoorWSl7
set_option maxRecDepth 100000
set_option linter.unusedVariables false
namespace Go.Proofs.YtibmppgmjbpdmaaGreatDoor
open Go.ChangeShapes Go.WideShapes Go.ChangeAt Go.RowKit Go.Ix
theorem officeRecovers_lifted(os:Os)(started:os.Started)(H:Type)(enc:TypeId×Value->H) :
 ReturnsInHanded {} Tryz.checked os 4 .any (λw args=>(Rows.officeRecoversSpec.pre enc Tryz.prog Tryz.f4 Rows.officeRecoversRow.domain false w args/\laidMetH Tryz.prog laid10 w)/\sizedMet enc Tryz.prog Tryz.f4 (OpenSpec.ofChange Rows.officeRecoversSpec) false w args)
  (Rows.officeRecoversSpec.post enc Tryz.prog Tryz.f4 false true false false):=by
 refine returnsInHanded_of_change_and (C:=Tryz.checked) (X:=λw _=>laidMetH Tryz.prog laid10 w) (λ_ _ _ hh h=>h.of_heap hh) Tryz.own started (by kernel_rfl) Tryz.func4
  (ChangeSpec.witness_shaped (enc:=enc) (C:=Tryz.checked) (os:=os) (X:=λw _=>laidMetH Tryz.prog laid10 w) false (World.laidAll Tryz.prog os laid10) #[.slice none 0 0,.int .i64 0,.int .u8 0] 8 (World.laidAll_os _ _ _)
   (World.shaped_of_ZipB (by kernel_rfl) (by kernel_rfl)) (by kernel_rfl) (by kernel_rfl) (by kernel_rfl) (laid_met os _)) ?_
 intro W base args ds gs before hval0 hW hcnd _ hL _
 have hval:∀(j:Nat) t v,Tryz.f4.params[j]?=some t->args[j]?=some v->Value.okWide Tryz.prog W .any base t v:=hval0
 have hW':=hW
 obtain⟨p,q,hA0,hV,rfl,hfz,hnd⟩:=hW
 have hA:DataW.TrodAll enc Tryz.prog W 0 (λ_=>true) true Tryz.f4.params.toList args.toList ds p:=hA0
 rw[Tryz.params4]at hA hval
 obtain⟨v0,v1,v2,d0,d1,d2,p0,p1,p2,rfl,rfl,rfl,t0,t1,t2⟩:=trodAll_three hA
 obtain⟨rfl,rfl⟩:=trodVars_none hV
 obtain⟨a0,s0,w0⟩:=arg_open (k:=5) (by kernel_rfl) (hval 0 _ v0 rfl rfl) t0
 obtain⟨a1,s1,w1⟩:=arg_open (k:=5) (by kernel_rfl) (hval 1 _ v1 rfl rfl) t1
 obtain⟨a2,s2,w2⟩:=arg_open (k:=5) (by kernel_rfl) (hval 2 _ v2 rfl rfl) t2
 obtain⟨l0,h0,g0⟩:=log_in s0
 obtain⟨n1,rfl⟩:=int_in s1
 obtain⟨n2,rfl⟩:=byte_in s2
 obtain⟨m',hm⟩:=law_OfficeRecovers h0 g0 n1 n2
 refine(calls_of_T told_ok (vs:=#[v0,v1,v2]) (w:=W) hm rfl (known_laid hL) λi a v ha hv=>?_).mono λe W' ⟨he,hx⟩=>?_
 .match i with
  |0=>simp at ha hv;subst ha hv;exact w0
  |1=>simp at ha hv;subst ha hv;exact w1
  |2=>simp at ha hv;subst ha hv;exact w2
  |i+3=>simp at ha
 subst he
 exact⟨_,rfl,law_post (tb:=x7w) hW' hx rfl rfl rfl (by kernel_rfl) Tryz.laidOut (by
  rw[Tryz.params4]
  intro t ht
  simp only[x1pd,List.not_mem_nil,or_false]at ht
  rcases ht with rfl|rfl|rfl<;>exact⟨by kernel_rfl,x1r4 (by kernel_rfl)⟩)⟩
theorem officeRecovers_k1:(Rows.officeRecoversRow.inPlace == Tryz.prog.inPlace 4)=true:=by kernel_rfl
theorem officeRecovers_k2:(Rows.officeRecoversRow.unfollowed == Tryz.prog.unfollowed 4)=true:=by kernel_rfl
theorem officeRecovers_k3:(Rows.officeRecoversRow.recurses == Tryz.prog.recurses 4)=true:=by kernel_rfl
theorem officeRecovers_k4:(Rows.officeRecoversRow.named == Tryz.prog.varsNamed 4)=true:=by kernel_rfl
theorem officeRecovers_wf:Rows.officeRecoversRow.wf (OpenSpec.ofChange Rows.officeRecoversSpec)=true:=by kernel_rfl
theorem officeRecovers_facts:joinedFacts Tryz.prog 4 Tryz.f4 Rows.officeRecoversSpec Rows.officeRecoversRow=true:=by
 unfold joinedFacts
 rw[officeRecovers_wf,officeRecovers_k1,officeRecovers_k2,officeRecovers_k3,officeRecovers_k4,Tryz.laidOut,mapsRowed10]
 kernel_rfl
theorem officeRecovers_named:Tryz.prog.funcNamed "swath/swathlaw10.OfficeRecovers" = some 4:=by kernel_rfl
theorem officeRecovers_said:Rows.OfficeRecoversSaid:=
 OpenClaim.holds_of_wide 4 Tryz.f4 rfl rfl rfl rfl rfl rfl rfl ⟨rfl,rfl,rfl,rfl,rfl⟩ rfl rfl rfl rfl rfl officeRecovers_named Tryz.func4 officeRecovers_facts
  (x1r4 (by kernel_rfl)) (by unfold Func.isWrapper;first|(rw[x1p0 (by decide +kernel)];kernel_rfl)|(rw[x1oz (by decide +kernel)];exact⟨rfl,rfl⟩))
  (λos started H enc _=>officeRecovers_lifted os started H enc)
theorem officeRecovers_wft:Rows.officeRecoversRow.wfByText (OpenSpec.ofChange Rows.officeRecoversSpec)=true:=by kernel_rfl
theorem officeRecovers_main:Tryz.prog.mainIs=some (true,"8bdf51cd79bbabcbd177c287fa99b034962e272d9d17b960d66423984ca26721".toList):=by kernel_rfl
theorem officeRecovers_goes:false=Rows.officeRecoversRow.goesBy Tryz.prog:=by kernel_rfl
theorem officeRecovers_holds:Rows.OfficeRecoversCardSaid:=
 Claim7.holds_tied_plain_at .later [] [.data,.data,.data,.data,.sentinel,.sentinel,.pinned] true (true,"8bdf51cd79bbabcbd177c287fa99b034962e272d9d17b960d66423984ca26721") true
  officeRecovers_said (λ_ h=>by cases h) officeRecovers_wft (λ_ h=>by cases h) officeRecovers_row_tie rfl ⟨rfl,rfl⟩ officeRecovers_main rfl
  (λf fn hf hfn=>by
   obtain rfl:f=4:=x1q9 (officeRecovers_named.symm.trans hf) |>.symm
   obtain rfl:fn=Tryz.f4:=(x1q9 (Tryz.func4.symm.trans hfn)).symm
   exact⟨looks10,λj t ht=>by
    rw[Tryz.params4]at ht
    have hm:t∈[22,3,5]:=by simpa using x1s8 ht
    have hall:([22,3,5].all λu=>!Tryz.prog.wantsStandIn u)=true:=by kernel_rfl
    exact(show Tryz.prog.wantsStandIn t=false by simpa using x1p5.1 hall t hm)⟩)
  officeRecovers_goes
end Go.Proofs.YtibmppgmjbpdmaaGreatDoor
