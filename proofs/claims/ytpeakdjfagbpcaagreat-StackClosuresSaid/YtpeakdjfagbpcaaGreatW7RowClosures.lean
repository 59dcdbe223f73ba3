/- StackClosures: for every input the law returns true, and its arguments read as they did. -/
import Derived.Test.YtpeakdjfagbpcaaGreatWg2
import Derived.Test.YtpeakdjfagbpcaaGreatWg19
set_option maxRecDepth 100000
set_option linter.unusedVariables false
namespace Go.Proofs.YtpeakdjfagbpcaaGreat
open Go.ChangeShapes Go.WideShapes Go.ChangeAt Go.RowKit Go.Ix
theorem stackClosures_lifted(os:Os)(started:os.Started)(H:Type)(enc:TypeId×Value->H) :
 ReturnsInHanded {} Tryz.checked os 14 .any (Rows.stackClosuresSpec.pre6 enc Tryz.prog Tryz.f14 Rows.stackClosuresRow.domain false) (Rows.stackClosuresSpec.post enc Tryz.prog Tryz.f14 false true false false):=by
 refine returnsInHanded_of_change (C:=Tryz.checked) Tryz.own started (by kernel_rfl) Tryz.func14
  (ChangeSpec.witness6 (enc:=enc) (C:=Tryz.checked) false ⟨#[],#[.agg #[.slice none 0 0,.slice none 0 0,.slice none 0 0,.slice none 0 0],.slice none 0 0],[]⟩ 8 (by kernel_rfl) (by kernel_rfl) (by kernel_rfl) (by kernel_rfl)) ?_
 intro W base args ds gs before hval0 hW hcnd _
 have hval:∀(j:Nat) t v,Tryz.f14.params[j]?=some t->args[j]?=some v->Value.okWide Tryz.prog W .any base t v:=hval0
 have hW':=hW
 obtain⟨p,q,hA0,hV,rfl,hfz,hnd⟩:=hW
 have hA:DataW.TrodAll enc Tryz.prog W 0 (fun _=>true) true Tryz.f14.params.toList args.toList ds p:=hA0
 rw[Tryz.params14]at hA hval
 obtain⟨v0,v1,d0,d1,p0,p1,rfl,rfl,rfl,t0,t1⟩:=trodAll_two hA
 obtain⟨rfl,rfl⟩:=trodVars_none hV
 obtain⟨a0,s0,w0⟩:=arg_open (k:=5) (by kernel_rfl) (hval 0 _ v0 rfl rfl) t0
 obtain⟨a1,s1,w1⟩:=arg_open (k:=5) (by kernel_rfl) (hval 1 _ v1 rfl rfl) t1
 obtain⟨s0a,s0b,s0c,s0d,l0a,l0b,l0c,l0d,rfl,h0a,h0b,h0c,h0d⟩:=task7_in s0
 obtain⟨l1,h1⟩:=steps_in s1
 obtain⟨m',hm⟩:=law_StackClosures h0a h0b h0c h0d h1
 refine(calls_of_E (vs:=#[v0,v1]) (w:=W) hm rfl fun i a v ha hv=>?_).mono fun e W' ⟨he,hx⟩=>?_
 .match i with
  |0=>simp at ha hv;subst ha hv;exact w0
  |1=>simp at ha hv;subst ha hv;exact w1
  |i+2=>simp at ha
 subst he
 exact⟨_,rfl,law_post (tb:=x65) hW' hx rfl rfl rfl (by kernel_rfl) Tryz.laidOut (by
  rw[Tryz.params14]
  intro t ht
  simp only[List.mem_cons,List.not_mem_nil,or_false]at ht
  rcases ht with rfl|rfl<;>exact⟨by kernel_rfl,of_decide_eq_true (by kernel_rfl)⟩)⟩
theorem stackClosures_holds:Rows.StackClosuresSaid:=
 OpenClaim.holds_of_wide 14 Tryz.f14 rfl rfl rfl rfl rfl rfl rfl ⟨rfl,rfl,rfl,rfl,rfl⟩ rfl rfl rfl rfl rfl (by kernel_rfl) Tryz.func14 (by kernel_rfl)
  (of_decide_eq_true (by kernel_rfl)) (by unfold Func.isWrapper;first|(rw[if_pos (by decide +kernel)];kernel_rfl)|(rw[if_neg (by decide +kernel)];exact⟨rfl,rfl⟩))
  (fun os started H enc _=>stackClosures_lifted os started H enc)
end Go.Proofs.YtpeakdjfagbpcaaGreat
