/- UnwrapUndecided: for every input the law returns true, and its arguments read as they did. -/
import Derived.Test.YtljibmnhhdiakaaWRow
import Derived.Test.YtljibmnhhdiakaaWLawUnd
set_option maxRecDepth 100000
set_option linter.unusedVariables false
namespace Go.Proofs.Ytljibmnhhdiakaa
open Go.ChangeShapes Go.WideShapes Go.ChangeAt Go.RowKit Go.Ix
theorem unwrapUndecided_lifted(os:Os)(started:os.Started)(H:Type)(enc:TypeId×Value->H) :
 ReturnsInHanded {} Try.checked os 14 .any (Rows.unwrapUndecidedSpec.pre6 enc Try.prog Try.f14 Rows.unwrapUndecidedRow.domain false) (Rows.unwrapUndecidedSpec.post enc Try.prog Try.f14 false true false false):=by
 refine returnsInHanded_of_change (C:=Try.checked) Try.own started (by kernel_rfl) Try.func14
  (ChangeSpec.witness6 (enc:=enc) (C:=Try.checked) false ⟨#[],#[.agg #[.int .i64 0,.int .i64 0,.slice none 0 0,.slice none 0 0,.slice none 0 0],.agg #[.int .i64 0,.int .i64 0,.slice none 0 0]],[]⟩ 8 (by kernel_rfl) (by kernel_rfl) (by kernel_rfl) (by kernel_rfl)) ?_
 intro W base args ds gs before hval0 hW hcnd _
 have hval:∀(j:Nat) t v,Try.f14.params[j]?=some t->args[j]?=some v->Value.okWide Try.prog W .any base t v:=hval0
 have hW':=hW
 obtain⟨p,q,hA0,hV,rfl,hfz,hnd⟩:=hW
 have hA:DataW.TrodAll enc Try.prog W 0 (fun _=>true) true Try.f14.params.toList args.toList ds p:=hA0
 rw[Try.params14]at hA hval
 obtain⟨v0,v1,d0,d1,p0,p1,rfl,rfl,rfl,t0,t1⟩:=trodAll_two hA
 obtain⟨rfl,rfl⟩:=trodVars_none hV
 obtain⟨a0,s0,w0⟩:=arg_open (k:=5) (by kernel_rfl) (hval 0 _ v0 rfl rfl) t0
 obtain⟨a1,s1,w1⟩:=arg_open (k:=5) (by kernel_rfl) (hval 1 _ v1 rfl rfl) t1
 obtain⟨r0,c0,p0,a0x,b0,ph0,ac0,dn0,rfl,hp0,ha0,hb0⟩:=task_in s0
 obtain⟨r1,c1,p1,ph1,rfl,h1⟩:=map_in s1
 obtain⟨m',hm⟩:=law_UnwrapUndecided (r:=r0) (c:=c0) (r1:=r1) (c1:=c1) hp0 ha0 hb0 h1
 refine(calls_of_E (vs:=#[v0,v1]) (w:=W) hm rfl fun i a v ha hv=>?_).mono fun e W' ⟨he,hx⟩=>?_
 .match i with
  |0=>simp at ha hv;subst ha hv;exact w0
  |1=>simp at ha hv;subst ha hv;exact w1
  |i+2=>simp at ha
 subst he
 exact⟨_,rfl,law_post (tb:=4) hW' hx rfl rfl rfl Try.underlying4 Try.laidOut (by
  rw[Try.params14]
  intro t ht
  simp only[List.mem_cons,List.not_mem_nil,or_false]at ht
  rcases ht with rfl|rfl<;>exact⟨by kernel_rfl,of_decide_eq_true (by kernel_rfl)⟩)⟩
theorem unwrapUndecided_holds:Rows.UnwrapUndecidedSaid:=
 OpenClaim.holds_of_wide 14 Try.f14 rfl rfl rfl rfl rfl rfl rfl ⟨rfl,rfl,rfl,rfl,rfl⟩ rfl rfl rfl rfl rfl (by kernel_rfl) Try.func14 (by kernel_rfl)
  (of_decide_eq_true (by kernel_rfl)) (by unfold Func.isWrapper;first|(rw[if_pos (by decide +kernel)];kernel_rfl)|(rw[if_neg (by decide +kernel)];exact⟨rfl,rfl⟩))
  (fun os started H enc _=>unwrapUndecided_lifted os started H enc)
end Go.Proofs.Ytljibmnhhdiakaa
