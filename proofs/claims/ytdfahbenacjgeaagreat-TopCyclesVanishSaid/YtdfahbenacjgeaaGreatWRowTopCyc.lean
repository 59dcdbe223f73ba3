/- TopCyclesVanish: for every input the law returns true, and its arguments read as they did. -/
import Derived.Test.YtdfahbenacjgeaaGreatWg2
import Derived.Test.YtdfahbenacjgeaaGreatWg19
set_option maxRecDepth 100000
set_option linter.unusedVariables false
namespace Go.Proofs.YtdfahbenacjgeaaGreat
open Go.ChangeShapes Go.WideShapes Go.ChangeAt Go.RowKit Go.Ix
theorem topCyclesVanish_lifted(os:Os)(started:os.Started)(H:Type)(enc:TypeId×Value->H) :
 ReturnsInHanded {} Tryz.checked os 4 .any (Rows.topCyclesVanishSpec.pre6 enc Tryz.prog Tryz.f4 Rows.topCyclesVanishRow.domain false) (Rows.topCyclesVanishSpec.post enc Tryz.prog Tryz.f4 false true false false):=by
 refine returnsInHanded_of_change (C:=Tryz.checked) Tryz.own started (by kernel_rfl) Tryz.func4
  (ChangeSpec.witness6 (enc:=enc) (C:=Tryz.checked) false ⟨#[],#[.agg #[.slice none 0 0,.slice none 0 0,.slice none 0 0,.slice none 0 0],.agg #[.slice none 0 0,.slice none 0 0,.slice none 0 0]],[]⟩ 8 (by kernel_rfl) (by kernel_rfl) (by kernel_rfl) (by kernel_rfl)) ?_
 intro W base args ds gs before hval0 hW hcnd _
 have hval:∀(j:Nat) t v,Tryz.f4.params[j]?=some t->args[j]?=some v->Value.okWide Tryz.prog W .any base t v:=hval0
 have hW':=hW
 obtain⟨p,q,hA0,hV,rfl,hfz,hnd⟩:=hW
 have hA:DataW.TrodAll enc Tryz.prog W 0 (λ_=>true) true Tryz.f4.params.toList args.toList ds p:=hA0
 rw[Tryz.params4]at hA hval
 obtain⟨v0,v1,d0,d1,p0,p1,rfl,rfl,rfl,t0,t1⟩:=trodAll_two hA
 obtain⟨rfl,rfl⟩:=trodVars_none hV
 obtain⟨a0,s0,w0⟩:=arg_open (k:=5) (by kernel_rfl) (hval 0 _ v0 rfl rfl) t0
 obtain⟨a1,s1,w1⟩:=arg_open (k:=5) (by kernel_rfl) (hval 1 _ v1 rfl rfl) t1
 obtain⟨s0a,s0b,s0c,s0d,l0a,l0b,l0c,l0d,rfl,h0a,h0b,h0c,h0d⟩:=task7_in s0
 obtain⟨s1a,s1b,s1c,l1a,l1b,l1c,rfl,h1a,h1b,h1c⟩:=forests_in s1
 obtain⟨m',hm⟩:=law_TopCyclesVanish h0a h0b h0c h0d h1a h1b h1c
 refine(calls_of_E (vs:=#[v0,v1]) (w:=W) hm rfl λi a v ha hv=>?_).mono λe W' ⟨he,hx⟩=>?_
 .match i with
  |0=>simp at ha hv;subst ha hv;exact w0
  |1=>simp at ha hv;subst ha hv;exact w1
  |i+2=>simp at ha
 subst he
 exact⟨_,rfl,law_post (tb:=x7l) hW' hx rfl rfl rfl (by kernel_rfl) Tryz.laidOut (by
  rw[Tryz.params4]
  intro t ht
  simp only[x1gn,x1ju,or_false]at ht
  rcases ht with rfl|rfl<;>exact⟨by kernel_rfl,x1i2 (by kernel_rfl)⟩)⟩
theorem topCyclesVanish_holds:Rows.TopCyclesVanishSaid:=
 OpenClaim.holds_of_wide 4 Tryz.f4 rfl rfl rfl rfl rfl rfl rfl ⟨rfl,rfl,rfl,rfl,rfl⟩ rfl rfl rfl rfl rfl (by kernel_rfl) Tryz.func4 (by kernel_rfl)
  (x1i2 (by kernel_rfl)) (by unfold Func.isWrapper;first|(rw[x1g7 (by decide +kernel)];kernel_rfl)|(rw[x1g6 (by decide +kernel)];exact⟨rfl,rfl⟩))
  (λos started H enc _=>topCyclesVanish_lifted os started H enc)
end Go.Proofs.YtdfahbenacjgeaaGreat
