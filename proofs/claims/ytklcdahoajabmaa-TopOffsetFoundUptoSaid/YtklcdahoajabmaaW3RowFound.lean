/- TopOffsetFound: for every input of bulk at most 1048576 the law returns true, and its arguments read as they did. -/
import Derived.Test.YtklcdahoajabmaaWg13
import Derived.Test.YtklcdahoajabmaaWg18
import Derived.JoinedCond
import Derived.ChangeArms
set_option maxRecDepth 100000
set_option linter.unusedVariables false
namespace Go.Proofs.Ytklcdahoajabmaa
open Go.ChangeShapes Go.WideShapes Go.ChangeAt Go.RowKit Go.Ix
theorem topOffsetFound_lifted(os:Os)(started:os.Started)(H:Type)(enc:TypeId×Value->H)(F:Stop.Interp) :
 ReturnsInHanded {} Try.checked os 3 .any ((Rows.OpenSpec.upto Rows.topOffsetFoundSpec).pre6 enc Try.prog Try.f3 Rows.topOffsetFoundUptoRow.domain false) (((Rows.OpenSpec.upto Rows.topOffsetFoundSpec).at F).post enc Try.prog Try.f3 false true false false):=by
 refine returnsInHanded_of_cond (C:=Try.checked) (s:=Rows.OpenSpec.upto Rows.topOffsetFoundSpec) (k:=Rows.uptoSmall) rfl Try.own started (by kernel_rfl) Try.func3
  (OpenSpec.witness (enc:=enc) (C:=Try.checked) (s:=Rows.OpenSpec.upto Rows.topOffsetFoundSpec) (k:=Rows.uptoSmall) rfl false ⟨#[],#[.agg #[.int .i64 0,.int .i64 0,.slice none 0 0],.agg #[.int .i64 0,.int .i64 0,.int .i64 0,.int .i64 0],.agg #[.int .i64 0,.int .i64 0]],[]⟩ 8 (by kernel_rfl) (by kernel_rfl) (by kernel_rfl)
   (x:=([.agg [.lit (.int .i64 0),.lit (.int .i64 0),.nil],.agg [.lit (.int .i64 0),.lit (.int .i64 0),.lit (.int .i64 0),.lit (.int .i64 0)],.agg [.lit (.int .i64 0),.lit (.int .i64 0)]],[],[])) (by kernel_rfl) rfl (by kernel_rfl)) ?_
 intro W base args ds gs before hval0 hW _ hk _
 have hval:∀(j:Nat) t v,Try.f3.params[j]?=some t->args[j]?=some v->Value.okWide Try.prog W .any base t v:=hval0
 have hW':=hW
 obtain⟨p,q,hA0,hV,rfl,hfz,hnd⟩:=hW
 have hA:DataW.TrodAll enc Try.prog W 0 (λ_=>true) true Try.f3.params.toList args.toList ds p:=hA0
 rw[Try.params3]at hA hval
 obtain⟨v0,v1,v2,d0,d1,d2,p0,p1,p2,rfl,rfl,rfl,t0,t1,t2⟩:=trodAll_three hA
 obtain⟨rfl,rfl⟩:=trodVars_none hV
 obtain⟨a0,s0,w0⟩:=arg_open (k:=5) (by kernel_rfl) (hval 0 _ v0 rfl rfl) t0
 obtain⟨a1,s1,w1⟩:=arg_open (k:=5) (by kernel_rfl) (hval 1 _ v1 rfl rfl) t1
 obtain⟨a2,s2,w2⟩:=arg_open (k:=5) (by kernel_rfl) (hval 2 _ v2 rfl rfl) t2
 obtain⟨L0,S0,b0,l0,rfl,h0⟩:=shot_in s0
 obtain⟨x1,y1,z1,u1,rfl⟩:=win_in s1
 obtain⟨n2,q2,rfl⟩:=two3_in s2
 have hb:l0.length<=1048576:=by
  have h1:=shot_bulk t0 w0 h0
  have h2:Rows.uptoBulkAll ([d0,d1,d2]++[])<=1048576:=xuu hk
  have h3:=bulk_part (show d0∈[d0,d1,d2]++[] by simp)
  omega
 obtain⟨m',hm⟩:=law_TopOffsetFound L0 S0 h0 x1 y1 z1 u1 n2 q2 hb
 refine(calls_of_E (vs:=#[v0,v1,v2]) (w:=W) hm rfl λi a v ha hv=>?_).mono λe W' ⟨he,hx⟩=>?_
 .match i with
  |0=>simp at ha hv;subst ha hv;exact w0
  |1=>simp at ha hv;subst ha hv;exact w1
  |2=>simp at ha hv;subst ha hv;exact w2
  |i+3=>simp at ha
 subst he
 exact⟨_,rfl,law_post (tb:=xcl) hW' hx rfl rfl rfl (by kernel_rfl) Try.laidOut (by
  rw[Try.params3]
  intro t ht
  simp only[xtm,List.not_mem_nil,or_false]at ht
  rcases ht with rfl|rfl|rfl<;>exact⟨by kernel_rfl,xuu (by kernel_rfl)⟩)⟩
theorem topOffsetFound_holds:Rows.TopOffsetFoundUptoSaid:=
 OpenClaim.holds_of_cond 3 Try.f3 rfl rfl rfl rfl rfl rfl rfl ⟨rfl,rfl,rfl,rfl,rfl⟩ rfl rfl rfl rfl rfl (by kernel_rfl) Try.func3 (by kernel_rfl)
  (xuu (by kernel_rfl)) (by unfold Func.isWrapper;first|(rw[xta (by decide +kernel)];kernel_rfl)|(rw[xtb (by decide +kernel)];exact⟨rfl,rfl⟩))
  (λos started H enc _ F=>topOffsetFound_lifted os started H enc F)
end Go.Proofs.Ytklcdahoajabmaa
