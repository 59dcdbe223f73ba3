import Derived.Test.YtdfahbenacjgeaaFxText0
import Derived.Test.YtdfahbenacjgeaaFxEnt
import Derived.Test.YtdfahbenacjgeaaFxRules
import Derived.Test.YtdfahbenacjgeaaFxProj
import Derived.ProofKit
set_option linter.unusedVariables false
namespace Go.Ix
open Go.Proofs
variable{c:qI}{h:FHs}{u:Nat}
noncomputable abbrev xag:=VX eN 192 r_0
theorem x2k:xag c h u (qX eN) r_0 qP=j3 (fM c h u) 0 1 2:=(tq (j3 (fM c h u) 0 1 2) (sqN 7 (sq2 (kq (j0 (mR c h u))) (tq (j4 (mT c h u) 3 7 8 10) (sqN 1 (bk 0 (lq (fL c h u) (λr=>j5 r 3 7 8 10 11) λrec0=>(tq (j5 (eP c h u rec0) 3 7 8 10 11) (sqN 1 (sq2 (kq (j5 (aY c h u rec0) 3 7 8 10 11)) (bk 1 (tq (j5 (mS c h u rec0) 3 7 8 10 11) (sqN 5 (sq2 (kq (j7 (fH c h u rec0) 3 7 8 10 11 13 16)) (tq (j7 (fJ c h u rec0) 3 7 8 10 11 13 16) (sqN 1 (bk 2 (lq (aZ c h u rec0) (λr=>j8 r 3 7 8 10 11 13 16 17) λs=>(kq (j8 (fI c h u rec0 s) 3 7 8 10 11 13 16 17))))))))))))))))))))
noncomputable abbrev xah:=VX cP 74 r_1
theorem x2l:xah c h u (qX cP) r_1 qP=j1 (fP c h u) 0:=(tq (j1 (fP c h u) 0) (sqN 4 (sq2 (kq (j0 (mX c h u))) (tq (j1 (mY c h u) 1) (sqN 1 (bk 0 (lq (bA c h u) (λr=>j2 r 1 3) λrec0=>(kq (j2 (fN c h u rec0) 1 3)))))))))
noncomputable abbrev xai:=VX cQ 14 r_2
theorem x2m:xai c h u (qX cQ) r_2 qP=j2 (fQ c h u) 0 1:=(tq (j2 (fQ c h u) 0 1) (sqN 2 (sq2 (kq (j1 (eQ c h u) 0)) (kq (j2 (mZ c h u) 0 1)))))
noncomputable abbrev xaj:=VX bK 35 r_3
theorem x2n:xaj c h u (qX bK) r_3 qP=j1 (fR c h u) 0:=(kq (j1 (fR c h u) 0))
noncomputable abbrev xak:=VX aP 9 r_4
theorem x2o:xak c h u (qX aP) r_4 qP=j1 (eR c h u) 0:=(kq (j1 (eR c h u) 0))
noncomputable abbrev xal:=VX cR 104 r_5
theorem x2p:xal c h u (qX cR) r_5 qP=j2 (fZ c h u) 0 1:=(tq (j2 (fZ c h u) 0 1) (sqN 2 (sq2 (sq2 (kq (j2 (nB c h u) 4 5)) (tq (j4 (fV c h u) 1 2 4 5) (sqN 1 (bk 2 (lq (cF c h u) (λr=>j5 r 1 2 4 5 7) λrec0=>(tq (j5 (fU c h u rec0) 1 2 4 5 7) (sqN 1 (sq2 (kq (j5 (eS c h u rec0) 1 2 4 5 7)) (kq (j5 (nC c h u rec0) 1 2 4 5 7)))))))))) (tq (j4 (nD c h u) 1 2 4 5) (sqN 1 (bk 0 (lq (dQ c h u) (λr=>j5 r 1 2 4 5 6) λs=>(kq (j5 (fY c h u s) 1 2 4 5 6)))))))))
noncomputable abbrev xam:=VX bL 36 r_1
theorem x2q:xam c h u (qX bL) r_1 qP=j1 (gA c h u) 0:=(kq (j1 (gA c h u) 0))
noncomputable abbrev xan:=VX cS 90 r_6
theorem x2r:xan c h u (qX cS) r_6 qP=j2 (gD c h u) 0 1:=(tq (j2 (gD c h u) 0 1) (sqN 5 (sq2 (tq (j4 (nH c h u) 1 2 8 9) (sqN 3 (sq2 (kq (j1 (nE c h u) 14)) (tq (j4 (nG c h u) 1 12 13 14) (sqN 1 (bk 2 (lq (dR c h u) (λr=>j7 r 1 12 13 14 60 61 62) λrec0=>(tq (j7 (gB c h u rec0) 1 12 13 14 60 61 62) (sqN 2 (sq2 (kq (j7 (eT c h u rec0) 1 12 13 14 60 61 62)) (kq (j7 (nF c h u rec0) 1 12 13 14 60 61 62)))))))))))) (tq (j4 (nJ c h u) 1 2 8 9) (sqN 1 (bk 0 (lq (dS c h u) (λr=>j7 r 1 2 8 9 36 37 38) λs=>(tq (j7 (gC c h u s) 1 2 8 9 36 37 38) (sqN 2 (sq2 (kq (j7 (eU c h u s) 1 2 8 9 36 37 38)) (kq (j7 (nI c h u s) 1 2 8 9 36 37 38))))))))))))
noncomputable abbrev xao:=VX cT 42 r_7
theorem x2s:xao c h u (qX cT) r_7 qP=j2 (gF c h u) 0 1:=(tq (j2 (gF c h u) 0 1) (sqN 3 (sq2 (kq (j2 (nM c h u) 4 6)) (tq (j3 (nN c h u) 1 4 6) (sqN 1 (bk 0 (lq (dT c h u) (λr=>j4 r 1 4 6 7) λrec0=>(kq (j4 (gE c h u rec0) 1 4 6 7)))))))))
noncomputable abbrev xap:=VX cU 55 r_1
theorem x2t:xap c h u (qX cU) r_1 qP=j1 (gH c h u) 0:=(tq (j1 (gH c h u) 0) (sqN 2 (sq2 (kq (j0 (nO c h u))) (tq (j1 (nP c h u) 0) (sqN 1 (bk 0 (lq (cH c h u) (λr=>j2 r 0 3) λrec0=>(kq (j2 (gG c h u rec0) 0 3)))))))))
noncomputable abbrev xaq:=VX aH 15 r_0
theorem x2u:xaq c h u (qX aH) r_0 qP=j3 (gI c h u) 0 1 2:=(kq (j3 (gI c h u) 0 1 2))
noncomputable abbrev xar:=VX cV 5 r_1
theorem x2v:xar c h u (qX cV) r_1 qP=j1 (gJ c h u) 0:=(kq (j1 (gJ c h u) 0))
noncomputable abbrev xas:=VX cW 5 r_1
theorem x2w:xas c h u (qX cW) r_1 qP=j1 (gK c h u) 0:=(kq (j1 (gK c h u) 0))
noncomputable abbrev xat:=VX cX 24 r_8
theorem x2x:xat c h u (qX cX) r_8 qP=j1 (gL c h u) 0:=(tq (j1 (gL c h u) 0) (sqN 2 (sq2 (kq (j5 (dU c h u) 2 3 5 6 7)) (kq (j5 (nQ c h u) 2 3 5 6 7)))))
noncomputable abbrev xau:=VX bM 32 r_9
theorem x2y:xau c h u (qX bM) r_9 qP=j2 (gO c h u) 0 1:=(tq (j2 (gO c h u) 0 1) (sqN 2 (sq2 (kq (j1 (nS c h u) 6)) (tq (j3 (nT c h u) 0 1 6) (sqN 1 (bk 0 (lq (dV c h u) (λr=>j5 r 0 6 11 12 13) λrec0=>(kq (j5 (gN c h u rec0) 0 6 11 12 13)))))))))
noncomputable abbrev xav:=VX cY 11 r_1
theorem x2z:xav c h u (qX cY) r_1 qP=j1 (gP c h u) 0:=(kq (j1 (gP c h u) 0))
noncomputable abbrev xaw:=VX aS 9 r_2
theorem x30:xaw c h u (qX aS) r_2 qP=j2 (gQ c h u) 0 1:=(kq (j2 (gQ c h u) 0 1))
noncomputable abbrev xax:=VX bN 6 r_1
theorem x31:xax c h u (qX bN) r_1 qP=j1 (gR c h u) 0:=(kq (j1 (gR c h u) 0))
noncomputable abbrev xay:=VX bO 10 r_2
theorem x32:xay c h u (qX bO) r_2 qP=j2 (gS c h u) 0 1:=(kq (j2 (gS c h u) 0 1))
noncomputable abbrev xaz:=VX bP 6 r_1
theorem x33:xaz c h u (qX bP) r_1 qP=j1 (gT c h u) 0:=(kq (j1 (gT c h u) 0))
noncomputable abbrev xb0:=VX aI 15 r_0
theorem x34:xb0 c h u (qX aI) r_0 qP=j3 (gU c h u) 0 1 2:=(kq (j3 (gU c h u) 0 1 2))
noncomputable abbrev xb1:=VX bQ 42 r_2
theorem x35:xb1 c h u (qX bQ) r_2 qP=j2 (gW c h u) 0 1:=(tq (j2 (gW c h u) 0 1) (sqN 3 (sq2 (kq (j1 (nU c h u) 6)) (tq (j4 (nV c h u) 1 2 5 6) (sqN 1 (bk 0 (lq (dW c h u) (λr=>j6 r 1 5 6 14 15 16) λrec0=>(kq (j6 (gV c h u rec0) 1 5 6 14 15 16)))))))))
noncomputable abbrev xb2:=VX aT 38 r_2
theorem x36:xb2 c h u (qX aT) r_2 qP=j2 (gY c h u) 0 1:=(tq (j2 (gY c h u) 0 1) (sqN 5 (sq2 (kq (j1 (nW c h u) 5)) (tq (j3 (nY c h u) 5 6 8) (sqN 1 (bk 0 (lq (dX c h u) (λr=>j5 r 5 6 8 24 25) λrec0=>(tq (j5 (gX c h u rec0) 5 6 8 24 25) (sqN 2 (sq2 (kq (j5 (eV c h u rec0) 5 6 8 24 25)) (kq (j5 (nX c h u rec0) 5 6 8 24 25))))))))))))
noncomputable abbrev xb3:=VX bR 30 r_2
theorem x37:xb3 c h u (qX bR) r_2 qP=j2 (hJ c h u) 0 1:=(tq (j2 (hJ c h u) 0 1) (sqN 2 (sq2 (kq (j1 (oD c h u) 5)) (tq (j3 (oF c h u) 1 2 5) (sqN 1 (bk 0 (lq (dY c h u) (λr=>j5 r 1 5 15 16 17) λrec0=>(tq (j5 (gZ c h u rec0) 1 5 15 16 17) (sqN 2 (sq2 (kq (j5 (eW c h u rec0) 1 5 15 16 17)) (kq (j5 (oE c h u rec0) 1 5 15 16 17))))))))))))
noncomputable abbrev xb4:=VX bS 19 r_8
theorem x38:xb4 c h u (qX bS) r_8 qP=j1 (hY c h u) 0:=(kq (j1 (hY c h u) 0))
noncomputable abbrev xb5:=VX cZ 45 r_10
theorem x39:xb5 c h u (qX cZ) r_10 qP=j2 (iE c h u) 0 1:=(tq (j2 (iE c h u) 0 1) (sqN 2 (sq2 (tq (j4 (iC c h u) 0 1 4 6) (sqN 1 (sq2 (kq (j2 (eX c h u) 4 8)) (kq (j2 (iB c h u) 4 8))))) (bk 0 (lq (bF c h u) (λr=>j5 r 0 1 4 6 7) λrec0=>(kq (j5 (dZ c h u rec0) 0 1 4 6 7)))))))
noncomputable abbrev xb6:=VX dA 66 r_11
theorem x3a:xb6 c h u (qX dA) r_11 qP=j1 (iG c h u) 0:=(tq (j1 (iG c h u) 0) (sqN 4 (sq2 (kq (j0 (oG c h u))) (tq (j2 (oI c h u) 1 6) (sqN 1 (bk 0 (lq (cI c h u) (λr=>j5 r 1 6 26 27 28) λrec0=>(kq (j5 (iF c h u rec0) 1 6 26 27 28)))))))))
noncomputable abbrev xb7:=VX cO 19 r_2
theorem x2j:xb7 c h u (qX cO) r_2 qP=j2 (iI c h u) 0 1:=(tq (j2 (iI c h u) 0 1) (sqN 1 (sq2 (kq (j0 (oJ c h u))) (tq (j2 (oL c h u) 0 1) (sqN 1 (bk 0 (lq (eC c h u) (λr=>j4 r 0 1 7 8) λrec0=>(kq (j4 (iH c h u rec0) 0 1 7 8)))))))))
noncomputable abbrev xb8:=VX bT 51 r_1
theorem x3b:xb8 c h u (qX bT) r_1 qP=j1 (iM c h u) 0:=(tq (j1 (iM c h u) 0) (sqN 2 (sq2 (tq (j3 (oP c h u) 1 3 4) (sqN 2 (sq2 (kq (j1 (oM c h u) 4)) (tq (j4 (oO c h u) 1 3 4 6) (sqN 1 (bk 2 (lq (eF c h u) (λr=>j6 r 1 4 6 29 30 31) λrec0=>(tq (j6 (iJ c h u rec0) 1 4 6 29 30 31) (sqN 2 (sq2 (kq (j6 (eY c h u rec0) 1 4 6 29 30 31)) (kq (j6 (oN c h u rec0) 1 4 6 29 30 31)))))))))))) (tq (j3 (oQ c h u) 1 3 4) (sqN 1 (bk 0 (lq (eH c h u) (λr=>j5 r 1 3 4 12 13) λs=>(kq (j5 (iL c h u s) 1 3 4 12 13)))))))))
noncomputable abbrev xb9:=VX aM 43 vC
theorem x3c:xb9 c h u (qX aM) vC qP=j7 (iP c h u) 0 1 2 3 4 5 6:=(tq (j7 (iP c h u) 0 1 2 3 4 5 6) (sqN 3 (bk 0 (tq (j6 (oT c h u) 1 4 5 6 7 16) (rg (.tmp 16) #[17,18] (λu=>(kq (j7 (oR c h u) 1 4 5 6 7 8 9))) (λu=>(kq (j7 (iN c h u) 1 4 5 6 7 17 18))))))))
noncomputable abbrev xba:=VX dB 8 r_0
theorem x3d:xba c h u (qX dB) r_0 qP=j3 (iQ c h u) 0 1 2:=(kq (j3 (iQ c h u) 0 1 2))
noncomputable abbrev xbb:=VX aU 15 r_1
theorem x3e:xbb c h u (qX aU) r_1 qP=j1 (iS c h u) 0:=(tq (j1 (iS c h u) 0) (sqN 2 (sq2 (kq (j1 (oU c h u) 3)) (tq (j2 (oV c h u) 0 3) (sqN 1 (bk 0 (lq (eI c h u) (λr=>j3 r 3 5 6) λrec0=>(kq (j3 (iR c h u rec0) 3 5 6)))))))))
noncomputable abbrev xbc:=VX bU 44 r_2
theorem x3f:xbc c h u (qX bU) r_2 qP=j2 (iV c h u) 0 1:=(tq (j2 (iV c h u) 0 1) (sqN 2 (sq2 (kq (j2 (oW c h u) 5 6)) (tq (j3 (oZ c h u) 0 5 6) (sqN 1 (bk 0 (lq (eJ c h u) (λr=>j6 r 0 5 6 19 20 21) λrec0=>(tq (j6 (iU c h u rec0) 0 5 6 19 20 21) (sqN 2 (sq2 (kq (j6 (iT c h u rec0) 0 5 6 19 20 21)) (kq (j6 (oX c h u rec0) 0 5 6 19 20 21))))))))))))
noncomputable abbrev xbd:=VX dC 77 r_1
theorem x3g:xbd c h u (qX dC) r_1 qP=j1 (iX c h u) 0:=(tq (j1 (iX c h u) 0) (sqN 2 (sq2 (kq (j0 (pA c h u))) (tq (j1 (pB c h u) 1) (sqN 1 (bk 1 (lq (bG c h u) (λr=>j4 r 1 21 22 23) λrec0=>(kq (j4 (iW c h u rec0) 1 21 22 23)))))))))
noncomputable abbrev xbe:=VX aV 10 r_2
theorem x3h:xbe c h u (qX aV) r_2 qP=j2 (iY c h u) 0 1:=(kq (j2 (iY c h u) 0 1))
noncomputable abbrev xbf:=VX bV 42 r_11
theorem x3i:xbf c h u (qX bV) r_11 qP=j1 (jA c h u) 0:=(tq (j1 (jA c h u) 0) (sqN 2 (sq2 (kq (j0 (pC c h u))) (tq (j1 (pD c h u) 0) (sqN 1 (bk 0 (lq (cJ c h u) (λr=>j4 r 0 9 10 11) λrec0=>(kq (j4 (iZ c h u rec0) 0 9 10 11)))))))))
noncomputable abbrev xbg:=VX dD 9 vC
theorem x3j:xbg c h u (qX dD) vC qP=j2 (jB c h u) 0 1:=(kq (j2 (jB c h u) 0 1))
noncomputable abbrev xbh:=VX bW 13 r_13
theorem x3k:xbh c h u (qX bW) r_13 qP=j3 (jC c h u) 0 1 2:=(kq (j3 (jC c h u) 0 1 2))
noncomputable abbrev xbi:=VX bX 41 r_2
theorem x3l:xbi c h u (qX bX) r_2 qP=j2 (jD c h u) 0 1:=(kq (j2 (jD c h u) 0 1))
noncomputable abbrev xbj:=VX dE 11 vC
theorem x3m:xbj c h u (qX dE) vC qP=j1 (jE c h u) 0:=(kq (j1 (jE c h u) 0))
noncomputable abbrev xbk:=VX aQ 43 vC
theorem x3n:xbk c h u (qX aQ) vC qP=j4 (jH c h u) 0 1 2 3:=(tq (j4 (jH c h u) 0 1 2 3) (sqN 1 (bk 0 (lq (bH c h u) (λr=>j6 r 0 2 3 12 13 14) λrec0=>(tq (j6 (jG c h u rec0) 0 2 3 12 13 14) (sqN 2 (sq2 (kq (j6 (pF c h u rec0) 0 2 3 12 13 14)) (bk 1 (tq (j6 (pG c h u rec0) 0 2 3 12 13 14) (sqN 2 (bk 2 (lq (cK c h u rec0) (λr=>j9 r 0 2 3 6 12 13 14 18 19) λs=>(kq (j9 (jF c h u rec0 s) 0 2 3 6 12 13 14 18 19))))))))))))))
noncomputable abbrev xbl:=VX dF 25 r_9
theorem x3o:xbl c h u (qX dF) r_9 qP=j2 (jI c h u) 0 1:=(kq (j2 (jI c h u) 0 1))
noncomputable abbrev xbm:=VX dG 54 r_1
theorem x3p:xbm c h u (qX dG) r_1 qP=j1 (jK c h u) 0:=(tq (j1 (jK c h u) 0) (sqN 1 (sq2 (kq (j1 (pH c h u) 0)) (tq (j1 (pI c h u) 0) (sqN 1 (bk 0 (lq (cL c h u) (λr=>j3 r 0 7 8) λrec0=>(kq (j3 (jJ c h u rec0) 0 7 8)))))))))
noncomputable abbrev xbn:=VX aX 15 r_0
theorem x3q:xbn c h u (qX aX) r_0 qP=j3 (jL c h u) 0 1 2:=(kq (j3 (jL c h u) 0 1 2))
noncomputable abbrev xbo:=VX dH 49 r_1
theorem x3r:xbo c h u (qX dH) r_1 qP=j1 (jP c h u) 0:=(tq (j1 (jP c h u) 0) (sqN 2 (sq2 (kq (j0 (pJ c h u))) (tq (j1 (pM c h u) 0) (sqN 1 (bk 0 (lq (cM c h u) (λr=>j3 r 13 14 15) λrec0=>(tq (j3 (jO c h u rec0) 13 14 15) (sqN 2 (sq2 (kq (j3 (jM c h u rec0) 13 14 15)) (bk 1 (tq (j3 (pL c h u rec0) 13 14 15) (sqN 1 (bk 2 (sq2 (kq (j6 (jN c h u rec0) 3 4 13 14 15 20)) (kq (j5 (pK c h u rec0) 3 4 13 14 15)))))))))))))))))
noncomputable abbrev xbp:=VX dI 9 r_2
theorem x3s:xbp c h u (qX dI) r_2 qP=j2 (jQ c h u) 0 1:=(kq (j2 (jQ c h u) 0 1))
noncomputable abbrev xbq:=VX aF 9 r_14
theorem x3t:xbq c h u (qX aF) r_14 qP=j2 (jR c h u) 0 1:=(kq (j2 (jR c h u) 0 1))
noncomputable abbrev xbr:=VX eO 63 vC
theorem x3u:xbr c h u (qX eO) vC qP=j3 (jU c h u) 0 1 2:=(tq (j3 (jU c h u) 0 1 2) (sqN 2 (sq2 (tq (j5 (pQ c h u) 0 1 2 6 7) (sqN 1 (bk 2 (lq (jS c h u) (λr=>j4 r 0 1 2 6) λrec0=>(tq (j4 (pP c h u rec0) 0 1 2 6) (sqN 1 (bk 3 (tq (j4 (xi c h u rec0) 0 1 2 6) (sqN 1 (sq2 (sq2 (kq (j4 (pN c h u rec0) 0 1 2 6)) (kq (j5 (xf c h u rec0) 0 1 2 6 7))) (bk 4 (lq (pO c h u rec0) (λr=>j6 r 0 1 2 6 7 8) λs=>(kq (j6 (xh c h u rec0 s) 0 1 2 6 7 8)))))))))))))) (bk 0 (lq (jT c h u) (λr=>j6 r 0 1 2 6 7 8) λw=>(kq (j6 (pR c h u w) 0 1 2 6 7 8)))))))
noncomputable abbrev xbs:=VX bY 7 r_1
theorem x3v:xbs c h u (qX bY) r_1 qP=j1 (jV c h u) 0:=(kq (j1 (jV c h u) 0))
noncomputable abbrev xbt:=VX bZ 134 vC
theorem x3w:xbt c h u (qX bZ) vC qP=j4 (jX c h u) 0 1 2 3:=(tq (j4 (jX c h u) 0 1 2 3) (sqN 2 (bk 0 (lq (jW c h u) (λr=>j6 r 0 1 2 3 8 9) λrec0=>(bk 1 (tq (j6 (pV c h u rec0) 0 1 2 3 8 9) (sqN 3 (sq2 (tq (j7 (pU c h u rec0) 0 1 2 3 8 9 10) (sqN 1 (sq2 (sq2 (kq (j8 (pS c h u rec0) 0 1 2 3 8 9 10 11)) (kq (j9 (pT c h u rec0) 0 1 2 3 8 9 10 11 12))) (kq (j9 (xj c h u rec0) 0 1 2 3 8 9 10 11 12))))) (kq (j7 (xk c h u rec0) 0 1 2 3 8 9 10))))))))))
noncomputable abbrev xbu:=VX dJ 8 r_1
theorem x3x:xbu c h u (qX dJ) r_1 qP=j1 (jY c h u) 0:=(kq (j1 (jY c h u) 0))
noncomputable abbrev xbv:=VX dK 19 r_2
theorem x3y:xbv c h u (qX dK) r_2 qP=j2 (kA c h u) 0 1:=(tq (j2 (kA c h u) 0 1) (sqN 1 (sq2 (kq (j0 (pW c h u))) (tq (j2 (pX c h u) 0 1) (sqN 1 (bk 0 (lq (eK c h u) (λr=>j4 r 0 1 7 8) λrec0=>(kq (j4 (jZ c h u rec0) 0 1 7 8)))))))))
noncomputable abbrev xbw:=VX cA 53 vC
theorem x3z:xbw c h u (qX cA) vC qP=j4 (kD c h u) 0 1 2 3:=(tq (j4 (kD c h u) 0 1 2 3) (sqN 1 (bk 0 (lq (bI c h u) (λr=>j5 r 0 1 2 3 8) λrec0=>(tq (j5 (fB c h u rec0) 0 1 2 3 8) (sqN 1 (sq2 (kq (j5 (kB c h u rec0) 0 1 2 3 8)) (bk 1 (tq (j5 (pY c h u rec0) 0 1 2 3 8) (sqN 1 (bk 2 (lq (eL c h u rec0) (λr=>j6 r 0 1 2 3 8 9) λs=>(kq (j6 (kC c h u rec0 s) 0 1 2 3 8 9))))))))))))))
noncomputable abbrev xbx:=VX dL 49 vC
theorem x40:xbx c h u (qX dL) vC qP=j3 (kG c h u) 0 1 2:=(tq (j3 (kG c h u) 0 1 2) (sqN 1 (bk 0 (lq (bJ c h u) (λr=>j4 r 0 1 2 6) λrec0=>(tq (j4 (fC c h u rec0) 0 1 2 6) (sqN 1 (sq2 (kq (j4 (kE c h u rec0) 0 1 2 6)) (bk 1 (tq (j4 (pZ c h u rec0) 0 1 2 6) (sqN 1 (bk 2 (lq (eM c h u rec0) (λr=>j5 r 0 1 2 6 7) λs=>(kq (j5 (kF c h u rec0 s) 0 1 2 6 7))))))))))))))
noncomputable abbrev xby:=VX cB 17 r_2
theorem x41:xby c h u (qX cB) r_2 qP=j2 (kH c h u) 0 1:=(kq (j2 (kH c h u) 0 1))
noncomputable abbrev xbz:=VX dM 25 r_1
theorem x42:xbz c h u (qX dM) r_1 qP=j1 (qD c h u) 0:=(tq (j1 (qD c h u) 0) (sqN 1 (sq2 (sq2 (sq2 (kq (j2 (qA c h u) 0 2)) (kq (j2 (qB c h u) 0 2))) (kq (j2 (qC c h u) 0 2))) (kq (j2 (xl c h u) 0 2)))))
noncomputable abbrev xc0:=VX cC 6 r_1
theorem x43:xc0 c h u (qX cC) r_1 qP=j1 (kI c h u) 0:=(kq (j1 (kI c h u) 0))
end Go.Ix
