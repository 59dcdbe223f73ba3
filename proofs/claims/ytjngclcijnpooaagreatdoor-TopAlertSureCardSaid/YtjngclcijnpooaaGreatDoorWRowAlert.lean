/- TopAlertSure: for every input the law returns true, and its arguments read as they did. -/
import Derived.Test.YtjngclcijnpooaaGreatDoorWg1
import Derived.Test.YtjngclcijnpooaaGreatDoorWg3
set_option maxRecDepth 100000
namespace Go.Proofs.YtjngclcijnpooaaGreatDoor
open Go.ChangeShapes Go.WideShapes Go.ChangeAt Go.RowKit Go.Ix
theorem topAlertSure_lifted(n:Os)(g:n.Started)(H:Type)(f:TypeId×Value->H) :
 ReturnsInHanded {} Tryz.checked n 3 .any (λw b=>(Rows.topAlertSureSpec.pre f Tryz.prog Tryz.f3 Rows.topAlertSureRow.domain false w b/\laidMetH Tryz.prog laid10 w)/\sizedMet f Tryz.prog Tryz.f3 (OpenSpec.ofChange Rows.topAlertSureSpec) false w b)
  (Rows.topAlertSureSpec.post f Tryz.prog Tryz.f3 false true false false):=by
 refine returnsInHanded_of_change_and (C:=Tryz.checked) (X:=λw _=>laidMetH Tryz.prog laid10 w) (λ_ _ _ N h=>h.of_heap N) Tryz.own g (by kernel_rfl) Tryz.func3
  (ChangeSpec.witness_shaped (enc:=f) (C:=Tryz.checked) (os:=n) (X:=λw _=>laidMetH Tryz.prog laid10 w) false (World.laidAll Tryz.prog n laid10) #[.agg #[.int .i64 0,.int .i64 0,.slice none 0 0,.slice none 0 0,.slice none 0 0],.slice none 0 0,.agg #[.int .i64 0,.int .i64 0]] 8 (World.laidAll_os _ _ _)
   (World.shaped_of_ZipB (by kernel_rfl) (by kernel_rfl)) (by kernel_rfl) (by kernel_rfl) (by kernel_rfl) (laid_met n _)) ?_
 intro W r b Q gs u m D E _ R _;have d:∀(j:Nat) t v,Tryz.f3.params[j]?=some t->b[j]?=some v->Value.okWide Tryz.prog W .any r t v:=m;have hW':=D;obtain⟨p,q,x,Y,rfl,Z,hnd⟩:=D;have J:DataW.TrodAll f Tryz.prog W 0 (λ_=>true) true Tryz.f3.params.toList b.toList Q p:=x;rw[Tryz.params3]at J d;obtain⟨K,L,M,d0,d1,d2,p0,p1,p2,rfl,rfl,rfl,t0,t1,t2⟩:=trodAll_three J;obtain⟨rfl,rfl⟩:=trodVars_none Y;obtain⟨a0,s0,w0⟩:=arg_open (k:=9) (by kernel_rfl) (d 0 _ K rfl rfl) t0;obtain⟨a1,s1,w1⟩:=arg_open (k:=5) (by kernel_rfl) (d 1 _ L rfl rfl) t1;obtain⟨a2,s2,w2⟩:=arg_open (k:=5) (by kernel_rfl) (d 2 _ M rfl rfl) t2;obtain⟨y,A,ba0,pa0,ea0,bl0,pl0,el0,rfl,h0,g0,b0⟩:=setup_inO s0;obtain⟨l1,h1,g1⟩:=log_in s1;obtain⟨x2,y2,rfl⟩:=two10_in s2;obtain⟨m',hm⟩:=law_TopAlertSure h0 g0 b0 y A h1 g1 x2 y2;refine(calls_of_T told_ok (vs:=#[K,L,M]) (w:=W) hm rfl (known_laid R) λi a v l o=>?_).mono λe W' ⟨O,P⟩=>?_
 .match i with
  |0=>simp at l o;subst l o;exact w0
  |1=>simp at l o;subst l o;exact w1
  |2=>simp at l o;subst l o;exact w2
  |i+3=>simp at l
 subst O
 exact⟨_,rfl,law_post (tb:=vQ) hW' P rfl rfl rfl (by kernel_rfl) Tryz.laidOut (by
  rw[Tryz.params3]
  intro t F
  simp only[eD,X7,or_false]at F
  rcases F with rfl|rfl|rfl<;>exact⟨by kernel_rfl,sN (by kernel_rfl)⟩)⟩
theorem topAlertSure_k1:(Rows.topAlertSureRow.inPlace == Tryz.prog.inPlace 3)=true:=by kernel_rfl
theorem topAlertSure_k2:(Rows.topAlertSureRow.unfollowed == Tryz.prog.unfollowed 3)=true:=by kernel_rfl
theorem topAlertSure_k3:(Rows.topAlertSureRow.recurses == Tryz.prog.recurses 3)=true:=by kernel_rfl
theorem topAlertSure_k4:(Rows.topAlertSureRow.named == Tryz.prog.varsNamed 3)=true:=by kernel_rfl
theorem topAlertSure_wf:Rows.topAlertSureRow.wf (OpenSpec.ofChange Rows.topAlertSureSpec)=true:=by kernel_rfl
theorem topAlertSure_facts:joinedFacts Tryz.prog 3 Tryz.f3 Rows.topAlertSureSpec Rows.topAlertSureRow=true:=by unfold joinedFacts;rw[topAlertSure_wf,topAlertSure_k1,topAlertSure_k2,topAlertSure_k3,topAlertSure_k4,Tryz.laidOut,mapsRowed10];kernel_rfl
theorem topAlertSure_named:Tryz.prog.funcNamed "swath/swathtop.TopAlertSure" = some 3:=by kernel_rfl
theorem topAlertSure_said:Rows.TopAlertSureSaid:=
 OpenClaim.holds_of_wide 3 Tryz.f3 rfl rfl rfl rfl rfl rfl rfl ⟨rfl,rfl,rfl,rfl,rfl⟩ rfl rfl rfl rfl rfl topAlertSure_named Tryz.func3 topAlertSure_facts
  (sN (by kernel_rfl)) (by unfold Func.isWrapper;first|(rw[aH (by decide +kernel)];kernel_rfl)|(rw[aD (by decide +kernel)];exact⟨rfl,rfl⟩))
  (λd a H b _=>topAlertSure_lifted d a H b)
theorem topAlertSure_wft:Rows.topAlertSureRow.wfByText (OpenSpec.ofChange Rows.topAlertSureSpec)=true:=by kernel_rfl
theorem topAlertSure_main:Tryz.prog.mainIs=some (true,"5f1ab8e11db84bc5b40cb1eafc926f4722a27f53937bd65eb5834f7be5756440".toList):=by kernel_rfl
theorem topAlertSure_goes:false=Rows.topAlertSureRow.goesBy Tryz.prog:=by kernel_rfl
theorem topAlertSure_holds:Rows.TopAlertSureCardSaid:=
 Claim7.holds_tied_plain_at .later [] [.data,.data,.data,.data,.sentinel,.sentinel,.pinned] true (true,"5f1ab8e11db84bc5b40cb1eafc926f4722a27f53937bd65eb5834f7be5756440") true
  topAlertSure_said (λ_ h=>by cases h) topAlertSure_wft (λ_ h=>by cases h) topAlertSure_row_tie rfl ⟨rfl,rfl⟩ topAlertSure_main rfl
  (λf fn e b=>by
   obtain rfl:f=3:=qJ (topAlertSure_named.symm.trans e) |>.symm
   obtain rfl:fn=Tryz.f3:=(qJ (Tryz.func3.symm.trans b)).symm
   exact⟨looks10,λj t d=>by
    rw[Tryz.params3]at d
    have g:t∈[26,27,28]:=by simpa using xaf d
    have a:([26,27,28].all λu=>!Tryz.prog.wantsStandIn u)=true:=by kernel_rfl
    exact(show Tryz.prog.wantsStandIn t=false by simpa using dG.1 a t g)⟩)
  topAlertSure_goes
end Go.Proofs.YtjngclcijnpooaaGreatDoor
