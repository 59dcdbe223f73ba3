/- TopReprocessedAnew: for every input the law returns true, and its arguments read as they did. -/
import Derived.Test.YtjngclcijnpooaaGreatDoorWg1
import Derived.Test.YtjngclcijnpooaaGreatDoorWg3
set_option maxRecDepth 100000
namespace Go.Proofs.YtjngclcijnpooaaGreatDoor
open Go.ChangeShapes Go.WideShapes Go.ChangeAt Go.RowKit Go.Ix
theorem topReprocessedAnew_lifted(n:Os)(g:n.Started)(H:Type)(f:TypeId×Value->H) :
 ReturnsInHanded {} Tryz.checked n 4 .any (λw b=>(Rows.topReprocessedAnewSpec.pre f Tryz.prog Tryz.f4 Rows.topReprocessedAnewRow.domain false w b/\laidMetH Tryz.prog laid10 w)/\sizedMet f Tryz.prog Tryz.f4 (OpenSpec.ofChange Rows.topReprocessedAnewSpec) false w b)
  (Rows.topReprocessedAnewSpec.post f Tryz.prog Tryz.f4 false true false false):=by
 refine returnsInHanded_of_change_and (C:=Tryz.checked) (X:=λw _=>laidMetH Tryz.prog laid10 w) (λ_ _ _ N h=>h.of_heap N) Tryz.own g (by kernel_rfl) Tryz.func4
  (ChangeSpec.witness_shaped (enc:=f) (C:=Tryz.checked) (os:=n) (X:=λw _=>laidMetH Tryz.prog laid10 w) false (World.laidAll Tryz.prog n laid10) #[.agg #[.int .i64 0,.int .i64 0,.slice none 0 0,.slice none 0 0,.slice none 0 0],.slice none 0 0,.agg #[.string ⟨#[]⟩,.string ⟨#[]⟩]] 8 (World.laidAll_os _ _ _)
   (World.shaped_of_ZipB (by kernel_rfl) (by kernel_rfl)) (by kernel_rfl) (by kernel_rfl) (by kernel_rfl) (laid_met n _)) ?_
 intro W r b Q gs u m D E _ R _;have d:∀(j:Nat) t v,Tryz.f4.params[j]?=some t->b[j]?=some v->Value.okWide Tryz.prog W .any r t v:=m;have hW':=D;obtain⟨p,q,x,Y,rfl,Z,hnd⟩:=D;have J:DataW.TrodAll f Tryz.prog W 0 (λ_=>true) true Tryz.f4.params.toList b.toList Q p:=x;rw[Tryz.params4]at J d;obtain⟨K,L,M,d0,d1,d2,p0,p1,p2,rfl,rfl,rfl,t0,t1,t2⟩:=trodAll_three J;obtain⟨rfl,rfl⟩:=trodVars_none Y;obtain⟨a0,s0,w0⟩:=arg_open (k:=9) (by kernel_rfl) (d 0 _ K rfl rfl) t0;obtain⟨a1,s1,w1⟩:=arg_open (k:=5) (by kernel_rfl) (d 1 _ L rfl rfl) t1;obtain⟨a2,s2,w2⟩:=arg_open (k:=5) (by kernel_rfl) (d 2 _ M rfl rfl) t2;obtain⟨y,A,ba0,pa0,ea0,bl0,pl0,el0,rfl,h0,g0,b0⟩:=setup_inO s0;obtain⟨l1,h1,g1⟩:=log_in s1;obtain⟨e2,rfl⟩:=ent_in s2;obtain⟨m',hm⟩:=law_TopReprocessedAnew h0 g0 b0 y A h1 g1 e2;refine(calls_of_T told_ok (vs:=#[K,L,M]) (w:=W) hm rfl (known_laid R) λi a v l o=>?_).mono λe W' ⟨O,P⟩=>?_
 .match i with
  |0=>simp at l o;subst l o;exact w0
  |1=>simp at l o;subst l o;exact w1
  |2=>simp at l o;subst l o;exact w2
  |i+3=>simp at l
 subst O
 exact⟨_,rfl,law_post (tb:=xI) hW' P rfl rfl rfl (by kernel_rfl) Tryz.laidOut (by
  rw[Tryz.params4]
  intro t F
  simp only[dW,wY,or_false]at F
  rcases F with rfl|rfl|rfl<;>exact⟨by kernel_rfl,sA (by kernel_rfl)⟩)⟩
theorem topReprocessedAnew_k1:(Rows.topReprocessedAnewRow.inPlace == Tryz.prog.inPlace 4)=true:=by kernel_rfl
theorem topReprocessedAnew_k2:(Rows.topReprocessedAnewRow.unfollowed == Tryz.prog.unfollowed 4)=true:=by kernel_rfl
theorem topReprocessedAnew_k3:(Rows.topReprocessedAnewRow.recurses == Tryz.prog.recurses 4)=true:=by kernel_rfl
theorem topReprocessedAnew_k4:(Rows.topReprocessedAnewRow.named == Tryz.prog.varsNamed 4)=true:=by kernel_rfl
theorem topReprocessedAnew_wf:Rows.topReprocessedAnewRow.wf (OpenSpec.ofChange Rows.topReprocessedAnewSpec)=true:=by kernel_rfl
theorem topReprocessedAnew_facts:joinedFacts Tryz.prog 4 Tryz.f4 Rows.topReprocessedAnewSpec Rows.topReprocessedAnewRow=true:=by unfold joinedFacts;rw[topReprocessedAnew_wf,topReprocessedAnew_k1,topReprocessedAnew_k2,topReprocessedAnew_k3,topReprocessedAnew_k4,Tryz.laidOut,mapsRowed10];kernel_rfl
theorem topReprocessedAnew_named:Tryz.prog.funcNamed "swath/swathtop.TopReprocessedAnew" = some 4:=by kernel_rfl
theorem topReprocessedAnew_said:Rows.TopReprocessedAnewSaid:=
 OpenClaim.holds_of_wide 4 Tryz.f4 rfl rfl rfl rfl rfl rfl rfl ⟨rfl,rfl,rfl,rfl,rfl⟩ rfl rfl rfl rfl rfl topReprocessedAnew_named Tryz.func4 topReprocessedAnew_facts
  (sA (by kernel_rfl)) (by unfold Func.isWrapper;first|(rw[aF (by decide +kernel)];kernel_rfl)|(rw[aB (by decide +kernel)];exact⟨rfl,rfl⟩))
  (λd a H b _=>topReprocessedAnew_lifted d a H b)
theorem topReprocessedAnew_wft:Rows.topReprocessedAnewRow.wfByText (OpenSpec.ofChange Rows.topReprocessedAnewSpec)=true:=by kernel_rfl
theorem topReprocessedAnew_main:Tryz.prog.mainIs=some (true,"5f1ab8e11db84bc5b40cb1eafc926f4722a27f53937bd65eb5834f7be5756440".toList):=by kernel_rfl
theorem topReprocessedAnew_goes:false=Rows.topReprocessedAnewRow.goesBy Tryz.prog:=by kernel_rfl
theorem topReprocessedAnew_holds:Rows.TopReprocessedAnewCardSaid:=
 Claim7.holds_tied_plain_at .later [] [.data,.data,.data,.data,.sentinel,.sentinel,.pinned] true (true,"5f1ab8e11db84bc5b40cb1eafc926f4722a27f53937bd65eb5834f7be5756440") true
  topReprocessedAnew_said (λ_ h=>by cases h) topReprocessedAnew_wft (λ_ h=>by cases h) topReprocessedAnew_row_tie rfl ⟨rfl,rfl⟩ topReprocessedAnew_main rfl
  (λf fn e b=>by
   obtain rfl:f=4:=pR (topReprocessedAnew_named.symm.trans e) |>.symm
   obtain rfl:fn=Tryz.f4:=(pR (Tryz.func4.symm.trans b)).symm
   exact⟨looks10,λj t d=>by
    rw[Tryz.params4]at d
    have g:t∈[26,27,55]:=by simpa using xh d
    have a:([26,27,55].all λu=>!Tryz.prog.wantsStandIn u)=true:=by kernel_rfl
    exact(show Tryz.prog.wantsStandIn t=false by simpa using dJ.1 a t g)⟩)
  topReprocessedAnew_goes
end Go.Proofs.YtjngclcijnpooaaGreatDoor
