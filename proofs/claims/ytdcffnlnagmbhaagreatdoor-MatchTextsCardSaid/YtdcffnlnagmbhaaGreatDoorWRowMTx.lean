/- MatchTexts: for every input the law returns true, and its arguments read as they did. -/
import Derived.Test.YtdcffnlnagmbhaaGreatDoorWg18
set_option maxRecDepth 100000
set_option linter.unusedVariables false
namespace Go.Proofs.YtdcffnlnagmbhaaGreatDoor
open Go.ChangeShapes Go.WideShapes Go.ChangeAt Go.RowKit Go.Ix
theorem matchTexts_lifted(os:Os)(started:os.Started)(H:Type)(enc:TypeId×Value->H) :
 ReturnsInHanded {} Tryz.checked os 3 .any (λw args=>(Rows.matchTextsSpec.pre enc Tryz.prog Tryz.f3 Rows.matchTextsRow.domain false w args/\laidMetH Tryz.prog laid10 w)/\sizedMet enc Tryz.prog Tryz.f3 (OpenSpec.ofChange Rows.matchTextsSpec) false w args)
  (Rows.matchTextsSpec.post enc Tryz.prog Tryz.f3 false true false false):=by
 refine returnsInHanded_of_change_and (C:=Tryz.checked) (X:=λw _=>laidMetH Tryz.prog laid10 w) (λ_ _ _ hh h=>h.of_heap hh) Tryz.own started (by kernel_rfl) Tryz.func3
  (ChangeSpec.witness_shaped (enc:=enc) (C:=Tryz.checked) (os:=os) (X:=λw _=>laidMetH Tryz.prog laid10 w) false (World.laidAll Tryz.prog os laid10) #[.agg #[.int .i64 0,.int .i64 0,.int .i64 0,.int .i64 0,.int .i64 0],.agg #[.int .i64 0,.int .i64 0,.int .i64 0,.int .i64 0,.int .i64 0,.int .i64 0,.int .i64 0],.string ⟨#[]⟩] 8 (World.laidAll_os _ _ _)
   (World.shaped_of_ZipB (by kernel_rfl) (by kernel_rfl)) (by kernel_rfl) (by kernel_rfl) (by kernel_rfl) (laid_met os _)) ?_
 intro W base args ds gs before hval0 hW hcnd _ hL _
 have hval:∀(j:Nat) t v,Tryz.f3.params[j]?=some t->args[j]?=some v->Value.okWide Tryz.prog W .any base t v:=hval0
 have hW':=hW
 obtain⟨p,q,hA0,hV,rfl,hfz,hnd⟩:=hW
 have hA:DataW.TrodAll enc Tryz.prog W 0 (λ_=>true) true Tryz.f3.params.toList args.toList ds p:=hA0
 rw[Tryz.params3]at hA hval
 obtain⟨v0,v1,v2,d0,d1,d2,p0,p1,p2,rfl,rfl,rfl,t0,t1,t2⟩:=trodAll_three hA
 obtain⟨rfl,rfl⟩:=trodVars_none hV
 obtain⟨a0,s0,w0⟩:=arg_open (k:=5) (by kernel_rfl) (hval 0 _ v0 rfl rfl) t0
 obtain⟨a1,s1,w1⟩:=arg_open (k:=5) (by kernel_rfl) (hval 1 _ v1 rfl rfl) t1
 obtain⟨a2,s2,w2⟩:=arg_open (k:=5) (by kernel_rfl) (hval 2 _ v2 rfl rfl) t2
 obtain⟨x0,rfl,b0⟩:=point_in s0
 obtain⟨f1,rfl,b1⟩:=aff_in s1
 obtain⟨n2,rfl⟩:=text_in s2
 obtain⟨m',hm⟩:=law_MatchTexts b0 b1 n2
 refine(calls_of_T told_ok (vs:=#[v0,v1,v2]) (w:=W) hm rfl (known_laid hL) λi a v ha hv=>?_).mono λe W' ⟨he,hx⟩=>?_
 .match i with
  |0=>simp at ha hv;subst ha hv;exact w0
  |1=>simp at ha hv;subst ha hv;exact w1
  |2=>simp at ha hv;subst ha hv;exact w2
  |i+3=>simp at ha
 subst he
 exact⟨_,rfl,law_post (tb:=xcq) hW' hx rfl rfl rfl (by kernel_rfl) Tryz.laidOut (by
  rw[Tryz.params3]
  intro t ht
  simp only[x174,x18z,or_false]at ht
  rcases ht with rfl|rfl|rfl<;>exact⟨by kernel_rfl,x18j (by kernel_rfl)⟩)⟩
theorem matchTexts_k1:(Rows.matchTextsRow.inPlace == Tryz.prog.inPlace 3)=true:=by kernel_rfl
theorem matchTexts_k2:(Rows.matchTextsRow.unfollowed == Tryz.prog.unfollowed 3)=true:=by kernel_rfl
theorem matchTexts_k3:(Rows.matchTextsRow.recurses == Tryz.prog.recurses 3)=true:=by kernel_rfl
theorem matchTexts_k4:(Rows.matchTextsRow.named == Tryz.prog.varsNamed 3)=true:=by kernel_rfl
theorem matchTexts_wf:Rows.matchTextsRow.wf (OpenSpec.ofChange Rows.matchTextsSpec)=true:=by kernel_rfl
theorem matchTexts_facts:joinedFacts Tryz.prog 3 Tryz.f3 Rows.matchTextsSpec Rows.matchTextsRow=true:=by
 unfold joinedFacts
 rw[matchTexts_wf,matchTexts_k1,matchTexts_k2,matchTexts_k3,matchTexts_k4,Tryz.laidOut,mapsRowed10]
 kernel_rfl
theorem matchTexts_named:Tryz.prog.funcNamed "swath/swathlaw03.MatchTexts" = some 3:=by kernel_rfl
theorem matchTexts_said:Rows.MatchTextsSaid:=
 OpenClaim.holds_of_wide 3 Tryz.f3 rfl rfl rfl rfl rfl rfl rfl ⟨rfl,rfl,rfl,rfl,rfl⟩ rfl rfl rfl rfl rfl matchTexts_named Tryz.func3 matchTexts_facts
  (x18j (by kernel_rfl)) (by unfold Func.isWrapper;first|(rw[x16u (by decide +kernel)];kernel_rfl)|(rw[x16t (by decide +kernel)];exact⟨rfl,rfl⟩))
  (λos started H enc _=>matchTexts_lifted os started H enc)
theorem matchTexts_wft:Rows.matchTextsRow.wfByText (OpenSpec.ofChange Rows.matchTextsSpec)=true:=by kernel_rfl
theorem matchTexts_main:Tryz.prog.mainIs=some (true,"b88056c4f7261fefa73d7815d7e0720c207d157a7f27e5e8abb083e8e6d553de".toList):=by kernel_rfl
theorem matchTexts_goes:false=Rows.matchTextsRow.goesBy Tryz.prog:=by kernel_rfl
theorem matchTexts_holds:Rows.MatchTextsCardSaid:=
 Claim7.holds_tied_plain_at .later [] [.data,.data,.data,.data,.sentinel,.sentinel,.pinned] true (true,"b88056c4f7261fefa73d7815d7e0720c207d157a7f27e5e8abb083e8e6d553de") true
  matchTexts_said (λ_ h=>by cases h) matchTexts_wft (λ_ h=>by cases h) matchTexts_row_tie rfl ⟨rfl,rfl⟩ matchTexts_main rfl
  (λf fn hf hfn=>by
   obtain rfl:f=3:=x17s (matchTexts_named.symm.trans hf) |>.symm
   obtain rfl:fn=Tryz.f3:=(x17s (Tryz.func3.symm.trans hfn)).symm
   exact⟨looks10,λj t ht=>by
    rw[Tryz.params3]at ht
    have hm:t∈[24,27,9]:=by simpa using x19o ht
    have hall:([24,27,9].all λu=>!Tryz.prog.wantsStandIn u)=true:=by kernel_rfl
    exact(show Tryz.prog.wantsStandIn t=false by simpa using x16z.1 hall t hm)⟩)
  matchTexts_goes
end Go.Proofs.YtdcffnlnagmbhaaGreatDoor
