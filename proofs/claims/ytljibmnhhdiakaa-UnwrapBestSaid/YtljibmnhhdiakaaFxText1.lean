import Derived.Test.YtljibmnhhdiakaaFxConst
set_option linter.unusedVariables false
namespace Go.Ix
open Go.Proofs
noncomputable def xz (call:x1p9) (hs:FHs) (u:Nat) (t5:AV) (m:Mem) (fc:Nat):O2:=
 some (t5,m)
noncomputable def x1b (call:x1p9) (hs:FHs) (u:Nat) (rec0:AV→AV→AV→AV→Mem→Nat→O2) (t1 t2 t5 t6:AV) (m:Mem) (fc:Nat):O2:=
 (sAdd t6 (I 1)).bind fun t14=>
  rec0 t1 t2 t5 t14 m (fc+3)
noncomputable def x6j (call:x1p9) (hs:FHs) (u:Nat) (rec0:AV→AV→AV→AV→Mem→Nat→O2) (t1 t2 t5 t6 t7:AV) (m:Mem) (fc:Nat):O2:=
 (sIx 1 t1 t6).bind fun t47=>
  (sLd false 1 t47 m).bind fun t48=>
  (sFA 3 t7).bind fun t49=>
  (sLd false 1 t49 m).bind fun t50=>
  (sNeg t50).bind fun t51=>
  (sGt t48 t51).bind fun t52=>
  x1pc t52
  ((sFA 1 t7).bind fun t54=>
  (sLd false 1 t54 m).bind fun t55=>
  (sFA 0 t7).bind fun t56=>
  (sLd false 1 t56 m).bind fun t57=>
  (sFA 2 t7).bind fun t59=>
  (sLd false 1 t59 m).bind fun t60=>
  (sNeg t60).bind fun t61=>
  (sFA 3 t7).bind fun t62=>
  (sLd false 1 t62 m).bind fun t63=>
  (sIx 1 t1 t6).bind fun t66=>
  (sLd false 1 t66 m).bind fun t67=>
  (sAdd t63 t67).bind fun t68=>
  (x1pl x5e [(0,1,t55),(1,1,t57),(2,1,t6),(3,1,(I (-1))),(4,1,t61),(5,1,t68)]).bind fun t69=>
  x1pt x5e [(0,6,t69)] 1 6 (u,fc+25,70) m fun t70 m_1=>
  sApp 6 48 (u,fc+26,71) (elems m_1.get 6 t70) t5 m_1 fun t71 m_2=>
  x1b call hs u rec0 t1 t2 t71 t6 m_2 (fc+28))
  (x1b call hs u rec0 t1 t2 t5 t6 m (fc+8))
noncomputable def x7q (call:x1p9) (hs:FHs) (u:Nat) (rec0:AV→AV→AV→AV→Mem→Nat→O2) (t1 t2 t5 t6 t7:AV) (m:Mem) (fc:Nat):O2:=
 (sIx 1 t1 t6).bind fun t22=>
  (sLd false 1 t22 m).bind fun t23=>
  (sFA 3 t7).bind fun t24=>
  (sLd false 1 t24 m).bind fun t25=>
  (sLt t23 t25).bind fun t26=>
  x1pc t26
  ((sFA 0 t7).bind fun t28=>
  (sLd false 1 t28 m).bind fun t29=>
  (sFA 1 t7).bind fun t30=>
  (sLd false 1 t30 m).bind fun t31=>
  (sFA 2 t7).bind fun t33=>
  (sLd false 1 t33 m).bind fun t34=>
  (sFA 3 t7).bind fun t35=>
  (sLd false 1 t35 m).bind fun t36=>
  (sIx 1 t1 t6).bind fun t39=>
  (sLd false 1 t39 m).bind fun t40=>
  (sSub t36 t40).bind fun t41=>
  (x1pl x5e [(0,1,t29),(1,1,t31),(2,1,t6),(3,1,(I 1)),(4,1,t34),(5,1,t41)]).bind fun t42=>
  x1pt x5e [(0,6,t42)] 1 6 (u,fc+23,43) m fun t43 m_3=>
  sApp 6 48 (u,fc+24,44) (elems m_3.get 6 t43) t5 m_3 fun t44 m_4=>
  x6j call hs u rec0 t1 t2 t44 t6 t7 m_4 (fc+26))
  (x6j call hs u rec0 t1 t2 t5 t6 t7 m (fc+7))
noncomputable def xb1 (call:x1p9) (hs:FHs) (u:Nat) (rec0:AV→AV→AV→AV→Mem→Nat→O2) (t1 t2 t5 t6:AV) (m:Mem) (fc:Nat):O2:=
 (sFA 1 t2).bind fun t15=>
  (sLd false 1 t15 m).bind fun t16=>
  (sIx 4 t16 t6).bind fun t18=>
  (sLd true 4 t18 m).bind fun t19=>
  x1po x6 (u,fc+5,7) m fun t7 m_5=>
  sSt 4 t7 t19 m_5 fun m_6=>
  x7q call hs u rec0 t1 t2 t5 t6 t7 m_6 (fc+7)
noncomputable def xe5 (call:x1p9) (hs:FHs) (u:Nat) (rec0:AV→AV→AV→AV→Mem→Nat→O2) (t1 t2 t5 t6:AV) (m:Mem) (fc:Nat):O2:=
 (sFA 1 t2).bind fun t9=>
  (sLd false 1 t9 m).bind fun t10=>
  (sLen Try.prog x7 t10).bind fun t11=>
  (sLt t6 t11).bind fun t12=>
  x1pc t12
  (xb1 call hs u rec0 t1 t2 t5 t6 m (fc+5))
  (xz call hs u t5 m (fc+5))
noncomputable def x2t (call:x1p9) (hs:FHs) (u:Nat):Nat→AV→AV→AV→AV→Mem→Nat→O2
 | 0=>fun _ _ _ _ _ _=>none
 | n+1=>fun t1 t2 t5 t6 m fc=>xe5 call hs u (x2t call hs u n) t1 t2 t5 t6 m fc
noncomputable def xe6 (call:x1p9) (hs:FHs) (u:Nat) (t1 t2 t5:AV) (m:Mem) (fc:Nat):O2:=
 x2t call hs u NN t1 t2 t5 (I 0) m (fc+1)
noncomputable def xir (call:x1p9) (hs:FHs) (u:Nat) (t0 t1:AV) (m:Mem) (fc:Nat):O2:=
 sBox t0 (u,fc,2) m fun t2 m_7=>
  xe6 call hs u t1 t2 nilS m_7 (fc+3)
noncomputable def xis (call:x1p9) (hs:FHs) (u:Nat) (t0:AV) (m:Mem) (fc:Nat):O2:=
 (sNe t0 (I 0)).bind fun t4=>
  some (t4,m)
noncomputable def x2u (call:x1p9) (hs:FHs) (u:Nat) (t7:AV) (m:Mem) (fc:Nat):O2:=
 some (AV.tup [t7,(I 0)],m)
noncomputable def xe7 (call:x1p9) (hs:FHs) (u:Nat) (rec0:AV→AV→AV→AV→AV→Mem→Nat→O2) (t6 t7 t38 t39 t40:AV) (m:Mem) (fc:Nat):O2:=
 (sAdd t40 (I 1)).bind fun t83=>
  rec0 t6 t7 t38 t39 t83 m (fc+2)
noncomputable def xit (call:x1p9) (hs:FHs) (u:Nat) (rec0:AV→AV→AV→AV→AV→Mem→Nat→O2) (t6 t7 t38 t39 t40:AV) (m:Mem) (fc:Nat):O2:=
 (sIx 1 t38 t40).bind fun t43=>
  (sLd false 1 t43 m).bind fun t44=>
  (x1pb call x10 [t44] m).bind fun p47=>
  (sFA 2 t6).bind fun t48=>
  (sLd false 1 t48 p47.2).bind fun t49=>
  (sIx 1 t49 t40).bind fun t51=>
  (sLd false 1 t51 p47.2).bind fun t52=>
  (x1pb call x10 [t52] p47.2).bind fun p53=>
  (sBin Try.prog .neq xck (.tmp 47) (.tmp 53) p47.1 p53.1).bind fun t54=>
  bif (Nat.ble 1 (mkM 0 [t44])&&true)&&(cAp (some m.next) (tR t48) (mkM 0 [t44])&&(cAp (some m.next) (tR t51) (mkM 0 [t44])&&true)) then
  x1pc t54
  (some (AV.tup [nilS,(I 31)],p53.2))
  ((x1pb call x10 [t44] p53.2).bind fun p57=>
  x1pc p57.1
  (xe7 call hs u rec0 t6 t7 t38 t39 t40 p57.2 (fc+18))
  ((x1pb call xa5 [t44] p57.2).bind fun p60=>
  (sNot p60.1).bind fun t61=>
  x1pc t61
  (some (AV.tup [nilS,(I 2)],p60.2))
  ((sFA 2 t6).bind fun t64=>
  (sLd false 1 t64 p60.2).bind fun t65=>
  (sIx 1 t65 t40).bind fun t67=>
  (sLd false 1 t67 p60.2).bind fun t68=>
  (sSub t44 t68).bind fun t69=>
  (sRem t69 (I 4096)).bind fun t70=>
  (sNe t70 (I 0)).bind fun t71=>
  x1pc t71
  (some (AV.tup [nilS,(I 27)],p60.2))
  ((sFA 2 t6).bind fun t75=>
  (sLd false 1 t75 p60.2).bind fun t76=>
  (sIx 1 t76 t40).bind fun t78=>
  (sLd false 1 t78 p60.2).bind fun t79=>
  (sSub t44 t79).bind fun t80=>
  (sQuo t80 (I 4096)).bind fun t81=>
  (sIx 1 t7 t40).bind fun t82=>
  sSt 1 t82 t81 p60.2 fun m_1=>
  xe7 call hs u rec0 t6 t7 t38 t39 t40 m_1 (fc+44))))) else none
noncomputable def xne (call:x1p9) (hs:FHs) (u:Nat) (rec0:AV→AV→AV→AV→AV→Mem→Nat→O2) (t6 t7 t38 t39 t40:AV) (m:Mem) (fc:Nat):O2:=
 (sLt t40 t39).bind fun t41=>
  x1pc t41
  (xit call hs u rec0 t6 t7 t38 t39 t40 m (fc+1))
  (x2u call hs u t7 m (fc+1))
noncomputable def x7r (call:x1p9) (hs:FHs) (u:Nat):Nat→AV→AV→AV→AV→AV→Mem→Nat→O2
 | 0=>fun _ _ _ _ _ _ _=>none
 | n+1=>fun t6 t7 t38 t39 t40 m fc=>xne call hs u (x7r call hs u n) t6 t7 t38 t39 t40 m fc
noncomputable def xiu (call:x1p9) (hs:FHs) (u:Nat) (t3 t6 t7:AV) (m:Mem) (fc:Nat):O2:=
 (sFA 2 t3).bind fun t37=>
  (sLd false 1 t37 m).bind fun t38=>
  (sLen Try.prog x5 t38).bind fun t39=>
  x7r call hs u NN t6 t7 t38 t39 (I 0) m (fc+4)
noncomputable def xnf (call:x1p9) (hs:FHs) (u:Nat) (t0 t1:AV) (m:Mem) (fc:Nat):O2:=
 sBox t0 (u,fc,2) m fun t2 m_2=>
  sBox t1 (u,fc+1,3) m_2 fun t3 m_3=>
  (sFA 0 t2).bind fun t10=>
  (sLd true 3 t10 m_3).bind fun t11=>
  x1po xp (u,fc+6,6) m_3 fun t6 m_4=>
  sSt 3 t6 t11 m_4 fun m_5=>
  (sFA 0 t3).bind fun t12=>
  (sLd false 1 t12 m_5).bind fun t13=>
  (sFA 0 t6).bind fun t14=>
  (sLd false 1 t14 m_5).bind fun t15=>
  (sNe t13 t15).bind fun t16=>
  (bif sW t16 false then (sFA 1 t3).bind fun v=>some (v,m_5) else some (U,m_5)).bind fun p18=>
  (bif sW t16 false then (sLd false 1 p18.1 p18.2).bind fun v=>some (v,p18.2) else some (U,p18.2)).bind fun p19=>
  (bif sW t16 false then (sFA 1 t6).bind fun v=>some (v,p19.2) else some (U,p19.2)).bind fun p20=>
  (bif sW t16 false then (sLd false 1 p20.1 p20.2).bind fun v=>some (v,p20.2) else some (U,p20.2)).bind fun p21=>
  (bif sW t16 false then (sNe p19.1 p21.1).bind fun v=>some (v,p21.2) else some (U,p21.2)).bind fun p22=>
  (x1ph t16 (B true) p22.1).bind fun t23=>
  (bif sW t23 false then (sFA 2 t3).bind fun v=>some (v,p22.2) else some (U,p22.2)).bind fun p25=>
  (bif sW t23 false then (sLd false 1 p25.1 p25.2).bind fun v=>some (v,p25.2) else some (U,p25.2)).bind fun p26=>
  (bif sW t23 false then (sLen Try.prog x5 p26.1).bind fun v=>some (v,p26.2) else some (U,p26.2)).bind fun p27=>
  (bif sW t23 false then (sFA 2 t6).bind fun v=>some (v,p27.2) else some (U,p27.2)).bind fun p28=>
  (bif sW t23 false then (sLd false 1 p28.1 p28.2).bind fun v=>some (v,p28.2) else some (U,p28.2)).bind fun p29=>
  (bif sW t23 false then (sLen Try.prog x5 p29.1).bind fun v=>some (v,p29.2) else some (U,p29.2)).bind fun p30=>
  (bif sW t23 false then (sNe p27.1 p30.1).bind fun v=>some (v,p30.2) else some (U,p30.2)).bind fun p31=>
  (x1ph t23 (B true) p31.1).bind fun t32=>
  x1pc t32
  (some (AV.tup [nilS,(I 10)],p31.2))
  ((sFA 2 t6).bind fun t33=>
  (sLd false 1 t33 p31.2).bind fun t34=>
  (sLen Try.prog x5 t34).bind fun t35=>
  x1qd x1q0 1 8 t35 t35 (u,fc+32,36) p31.2 fun t36 m_6=>
  xiu call hs u t3 t6 t36 m_6 (fc+34))
noncomputable def xd (call:x1p9) (hs:FHs) (u:Nat) (rec0:AV→AV→AV→AV→AV→AV→Mem→Nat→O2) (t0 t1 t2 t4 t9 t10:AV) (m:Mem) (fc:Nat):O2:=
 (sAdd t10 (I 1)).bind fun t54=>
  rec0 t0 t1 t2 t4 t9 t54 m (fc+2)
noncomputable def x5i (call:x1p9) (hs:FHs) (u:Nat) (rec0:AV→AV→AV→AV→AV→AV→Mem→Nat→O2) (rec1:AV→AV→AV→AV→AV→AV→AV→AV→AV→AV→Mem→Nat→O2) (t0 t1 t2 t4 t5 t6 t9 t10 t16 t17:AV) (m:Mem) (fc:Nat):O2:=
 (sAdd t17 (I 1)).bind fun t53=>
  rec1 t0 t1 t2 t4 t5 t6 t9 t10 t16 t53 m (fc+2)
noncomputable def xb2 (call:x1p9) (hs:FHs) (u:Nat) (rec0:AV→AV→AV→AV→AV→AV→Mem→Nat→O2) (rec1:AV→AV→AV→AV→AV→AV→AV→AV→AV→AV→Mem→Nat→O2) (t0 t1 t2 t4 t5 t6 t9 t10 t16 t17:AV) (m:Mem) (fc:Nat):O2:=
 (sEq t5 (I 0)).bind fun t21=>
  (bif sW t21 true then some (t17,m) else some (U,m)).bind fun p23=>
  (bif sW t21 true then (sLd false 1 t1 p23.2).bind fun v=>some (v,p23.2) else some (U,p23.2)).bind fun p24=>
  (bif sW t21 true then (sRem p23.1 p24.1).bind fun v=>some (v,p24.2) else some (U,p24.2)).bind fun p25=>
  (bif sW t21 true then (sLd false 1 t1 p25.2).bind fun v=>some (v,p25.2) else some (U,p25.2)).bind fun p26=>
  (bif sW t21 true then (sSub p26.1 (I 1)).bind fun v=>some (v,p26.2) else some (U,p26.2)).bind fun p27=>
  (bif sW t21 true then (sEq p25.1 p27.1).bind fun v=>some (v,p27.2) else some (U,p27.2)).bind fun p28=>
  (x1ph t21 p28.1 (B false)).bind fun t29=>
  (bif sW t29 false then some (t5,p28.2) else some (U,p28.2)).bind fun p31=>
  (bif sW t29 false then (sEq p31.1 (I 1)).bind fun v=>some (v,p31.2) else some (U,p31.2)).bind fun p32=>
  (bif sW t29 false then some (p32.1,p32.2) else some (U,p32.2)).bind fun p33=>
  (bif sW p33.1 true then some (t17,p33.2) else some (U,p33.2)).bind fun p34=>
  (bif sW p33.1 true then (sLd false 1 t1 p34.2).bind fun v=>some (v,p34.2) else some (U,p34.2)).bind fun p35=>
  (bif sW p33.1 true then (sQuo p34.1 p35.1).bind fun v=>some (v,p35.2) else some (U,p35.2)).bind fun p36=>
  (bif sW p33.1 true then (sLd false 1 t2 p36.2).bind fun v=>some (v,p36.2) else some (U,p36.2)).bind fun p37=>
  (bif sW p33.1 true then (sSub p37.1 (I 1)).bind fun v=>some (v,p37.2) else some (U,p37.2)).bind fun p38=>
  (bif sW p33.1 true then (sEq p36.1 p38.1).bind fun v=>some (v,p38.2) else some (U,p38.2)).bind fun p39=>
  (bif sW t29 false then (x1ph p33.1 p39.1 (B false)).bind fun v=>some (v,p39.2) else some (U,p39.2)).bind fun p40=>
  (x1ph t29 (B true) p40.1).bind fun t41=>
  x1pc t41
  (x5i call hs u rec0 rec1 t0 t1 t2 t4 t5 t6 t9 t10 t16 t17 p40.2 (fc+24))
  ((sAdd t17 t6).bind fun t47=>
  (x1pl x6e [(0,1,t17),(1,1,t47)]).bind fun t48=>
  (x1qz call hs 2 t0 [t4,t48] p40.2).bind fun p49=>
  (sNot p49.1).bind fun t50=>
  x1pc t50
  (some (AV.tup [],p49.2))
  ((sAdd t4 (I 1)).bind fun t52=>
  x5i call hs u rec0 rec1 t0 t1 t2 t52 t5 t6 t9 t10 t16 t17 p49.2 (fc+36)))
noncomputable def x7s (call:x1p9) (hs:FHs) (u:Nat) (rec0:AV→AV→AV→AV→AV→AV→Mem→Nat→O2) (rec1:AV→AV→AV→AV→AV→AV→AV→AV→AV→AV→Mem→Nat→O2) (t0 t1 t2 t4 t5 t6 t9 t10 t16 t17:AV) (m:Mem) (fc:Nat):O2:=
 (sLt t17 t16).bind fun t18=>
  x1pc t18
  (xb2 call hs u rec0 rec1 t0 t1 t2 t4 t5 t6 t9 t10 t16 t17 m (fc+1))
  (xd call hs u rec0 t0 t1 t2 t4 t9 t10 m (fc+1))
noncomputable def x1m (call:x1p9) (hs:FHs) (u:Nat) (rec0:AV→AV→AV→AV→AV→AV→Mem→Nat→O2):Nat→AV→AV→AV→AV→AV→AV→AV→AV→AV→AV→Mem→Nat→O2
 | 0=>fun _ _ _ _ _ _ _ _ _ _ _ _=>none
 | n+1=>fun t0 t1 t2 t4 t5 t6 t9 t10 t16 t17 m fc=>x7s call hs u rec0 (x1m call hs u rec0 n) t0 t1 t2 t4 t5 t6 t9 t10 t16 t17 m fc
noncomputable def x7t (call:x1p9) (hs:FHs) (u:Nat) (rec0:AV→AV→AV→AV→AV→AV→Mem→Nat→O2) (t0 t1 t2 t4 t9 t10:AV) (m:Mem) (fc:Nat):O2:=
 (sIdx Try.prog xe8 t9 t10).bind fun t13=>
  (sLd false 1 t2 m).bind fun t14=>
  (sLd false 1 t1 m).bind fun t15=>
  (sMul t14 t15).bind fun t16=>
  x1m call hs u rec0 NN t0 t1 t2 t4 t10 t13 t9 t10 t16 (I 0) m (fc+8)
noncomputable def x7u (call:x1p9) (hs:FHs) (u:Nat) (rec0:AV→AV→AV→AV→AV→AV→Mem→Nat→O2) (t0 t1 t2 t4 t9 t10:AV) (m:Mem) (fc:Nat):O2:=
 (sLt t10 (I 2)).bind fun t11=>
  x1pc t11
  (x7t call hs u rec0 t0 t1 t2 t4 t9 t10 m (fc+1))
  ((some (AV.tup [],m)))
noncomputable def x1n (call:x1p9) (hs:FHs) (u:Nat):Nat→AV→AV→AV→AV→AV→AV→Mem→Nat→O2
 | 0=>fun _ _ _ _ _ _ _ _=>none
 | n+1=>fun t0 t1 t2 t4 t9 t10 m fc=>x7u call hs u (x1n call hs u n) t0 t1 t2 t4 t9 t10 m fc
noncomputable def xiv (call:x1p9) (hs:FHs) (u:Nat) (t0 t1 t2:AV) (m:Mem) (fc:Nat):O2:=
 (sLd false 1 t1 m).bind fun t8=>
  (x1pl x6e [(0,1,(I 1)),(1,1,t8)]).bind fun t9=>
  x1n call hs u NN t0 t1 t2 (I 0) t9 (I 0) m (fc+4)
noncomputable def x5j (call:x1p9) (hs:FHs) (u:Nat) (t7:AV) (m:Mem) (fc:Nat):O2:=
 some (t7,m)
noncomputable def xe9 (call:x1p9) (hs:FHs) (u:Nat) (rec0:AV→AV→Mem→Nat→O2) (t7 t8:AV) (m:Mem) (fc:Nat):O2:=
 (sLen Try.prog x5 t7).bind fun t36=>
  (sLt t8 t36).bind fun t37=>
  x1pc t37
  ((x1rc Try.prog x5 t7 (some t8) none).bind fun t41=>
  (x1rc Try.prog x5 t7 none (some t8)).bind fun t44=>
  sCpy 1 t41 t44 m fun t45 m_1=>
  (sAdd t8 t45).bind fun t46=>
  rec0 t7 t46 m_1 (fc+14))
  (x5j call hs u t7 m (fc+4))
noncomputable def x26 (call:x1p9) (hs:FHs) (u:Nat):Nat→AV→AV→Mem→Nat→O2
 | 0=>fun _ _ _ _=>none
 | n+1=>fun t7 t8 m fc=>xe9 call hs u (x26 call hs u n) t7 t8 m fc
noncomputable def xea (call:x1p9) (hs:FHs) (u:Nat) (t0 t6:AV) (m:Mem) (fc:Nat):O2:=
 (sCvt Try.prog xr x1ri t6).bind fun t29=>
  x1qd x1q0 1 8 t29 t29 (u,fc+2,30) m fun t30 m_2=>
  sCpy 1 t30 t0 m_2 fun t33 m_3=>
  x26 call hs u NN t30 t33 m_3 (fc+8)
noncomputable def xeb (call:x1p9) (hs:FHs) (u:Nat) (t0 t5 t6:AV) (m:Mem) (fc:Nat):O2:=
 (sBin Try.prog .gtr xr (.tmp 21) (.const (.int .u64 0)) t5 (AV.sc (.int .u64 0))).bind fun t22=>
  (bif sW t22 false then some (t6,m) else some (U,m)).bind fun p24=>
  (bif sW t22 false then (sBin Try.prog .gtr xr (.tmp 24) (.const (.int .u64 9223372036854775807)) p24.1 (AV.sc (.int .u64 9223372036854775807))).bind fun v=>some (v,p24.2) else some (U,p24.2)).bind fun p25=>
  (x1ph t22 (B true) p25.1).bind fun t26=>
  x1pc t26
  (none)
  (xea call hs u t0 t6 p25.2 (fc+6))
noncomputable def xec (call:x1p9) (hs:FHs) (u:Nat) (t0 t1:AV) (m:Mem) (fc:Nat):O2:=
 (sLen Try.prog x5 t0).bind fun t14=>
  (sCvt Try.prog x1ri xr t14).bind fun t15=>
  (sCvt Try.prog x1ri xr t1).bind fun t17=>
  (x1pb call x63 [t15,t17] m).bind fun p18=>
  (sExt p18.1 0).bind fun t19=>
  (sExt p18.1 1).bind fun t20=>
  xeb call hs u t0 t19 t20 p18.2 (fc+11)
noncomputable def xed (call:x1p9) (hs:FHs) (u:Nat) (t0 t1:AV) (m:Mem) (fc:Nat):O2:=
 (sLt t1 (I 0)).bind fun t10=>
  x1pc t10
  (none)
  (xec call hs u t0 t1 m (fc+2))
noncomputable def xiw (call:x1p9) (hs:FHs) (u:Nat) (t0 t1:AV) (m:Mem) (fc:Nat):O2:=
 xed call hs u t0 t1 m (fc+1)
noncomputable def xb3 (call:x1p9) (hs:FHs) (u:Nat) (t0 t1 t2 t3:AV) (m:Mem) (fc:Nat):O2:=
 (sLd false 1 t1 m).bind fun t5=>
  (sIx 1 t5 t0).bind fun t7=>
  (sLd false 1 t7 m).bind fun t8=>
  (sLt t8 (I 0)).bind fun t9=>
  x1pc t9
  ((sLd false 1 t1 m).bind fun t10=>
  (sLd false 1 t2 m).bind fun t12=>
  (sIx 1 t10 t0).bind fun t13=>
  sSt 1 t13 t12 m fun m_1=>
  (sLd false 1 t3 m_1).bind fun t14=>
  x1pt x1q0 [(0,1,t0)] 1 1 (u,fc+12,16) m_1 fun t16 m_2=>
  sApp 1 8 (u,fc+13,17) (elems m_2.get 1 t16) t14 m_2 fun t17 m_3=>
  sSt 1 t3 t17 m_3 fun m_4=>
  (some (AV.tup [],m_4)))
  ((some (AV.tup [],m)))
noncomputable def xix (call:x1p9) (hs:FHs) (u:Nat) (t0 t1:AV) (m:Mem) (fc:Nat):O2:=
 sBox t0 (u,fc,2) m fun t2 m_1=>
  sBox t1 (u,fc+1,3) m_1 fun t3 m_2=>
  some ((AV.clo x46 [t2,t3]),m_2)
noncomputable def xng (call:x1p9) (hs:FHs) (u:Nat) (t0:AV) (m:Mem) (fc:Nat):O2:=
 (x1pb call xe [t0,(I (-100000000)),(I 100000000)] m).bind fun p4=>
  some (p4.1,p4.2)
noncomputable def xnh (call:x1p9) (hs:FHs) (u:Nat) (t0 t1:AV) (m:Mem) (fc:Nat):O2:=
 x1pc (B false)
  ((sCvt Try.prog xr x5k t0).bind fun t12=>
  (sCvt Try.prog xr x5k t1).bind fun t14=>
  (x1pb call xa6 [t12,t14] m).bind fun p15=>
  (sExt p15.1 0).bind fun t16=>
  (sExt p15.1 1).bind fun t17=>
  (sCvt Try.prog x5k xr t16).bind fun t19=>
  (sCvt Try.prog x5k xr t17).bind fun t21=>
  some (AV.tup [t19,t21],p15.2))
  ((x1pb call x87 [t0,t1] m).bind fun p25=>
  (sExt p25.1 0).bind fun t26=>
  (sExt p25.1 1).bind fun t27=>
  some (AV.tup [t26,t27],p25.2))
noncomputable def x1o (call:x1p9) (hs:FHs) (u:Nat) (rec0:AV→AV→AV→AV→AV→AV→Mem→Nat→O2) (t0 t1 t2 t14 t15 t16:AV) (m:Mem) (fc:Nat):O2:=
 (sAdd t16 (I 1)).bind fun t75=>
  rec0 t0 t1 t2 t14 t15 t75 m (fc+2)
noncomputable def x7v (call:x1p9) (hs:FHs) (u:Nat) (rec0:AV→AV→AV→AV→AV→AV→Mem→Nat→O2) (t0 t1 t2 t7 t14 t15 t16:AV) (m:Mem) (fc:Nat):O2:=
 (sFA 3 t7).bind fun t66=>
  (sLd false 1 t66 m).bind fun t67=>
  (sGt t67 (I 0)).bind fun t68=>
  (bif sW t68 true then some (t0,m) else some (U,m)).bind fun p70=>
  (bif sW t68 true then (sLd true 5 t7 p70.2).bind fun v=>some (v,p70.2) else some (U,p70.2)).bind fun p71=>
  (bif sW t68 true then (x1qz call hs 2 p70.1 [p71.1] p71.2).bind fun p=>some (p.1,p.2) else some (U,p71.2)).bind fun p72=>
  (bif sW t68 true then (sNot p72.1).bind fun v=>some (v,p72.2) else some (U,p72.2)).bind fun p73=>
  (x1ph t68 p73.1 (B false)).bind fun t74=>
  x1pc t74
  (some (AV.tup [],p73.2))
  (x1o call hs u rec0 t0 t1 t2 t14 t15 t16 p73.2 (fc+9))
noncomputable def x7w (call:x1p9) (hs:FHs) (u:Nat) (rec0:AV→AV→AV→AV→AV→AV→Mem→Nat→O2) (t0 t1 t2 t5 t6 t7 t14 t15 t16:AV) (m:Mem) (fc:Nat):O2:=
 (sFA 1 t6).bind fun t46=>
  (sLd false 1 t46 m).bind fun t47=>
  (sLd false 1 t2 m).bind fun t48=>
  (sEq t47 t48).bind fun t49=>
  x1pc t49
  ((sFA 0 t6).bind fun t51=>
  (sLd false 1 t51 m).bind fun t52=>
  (sFA 3 t6).bind fun t53=>
  (sLd false 1 t53 m).bind fun t54=>
  (sLd false 1 t1 m).bind fun t55=>
  (sNil t55).bind fun t56=>
  (sFA 2 t56).bind fun t57=>
  (sLd false 1 t57 m).bind fun t58=>
  (sIx 1 t58 t5).bind fun t60=>
  (sLd false 1 t60 m).bind fun t61=>
  (sAdd t54 t61).bind fun t62=>
  (sFA 2 t6).bind fun t63=>
  (sLd false 1 t63 m).bind fun t64=>
  (x1pl x7o [(0,1,t5),(1,1,t52),(2,1,(I (-1))),(3,1,t62),(4,1,t64)]).bind fun t65=>
  sSt 5 t7 t65 m fun m_1=>
  x7v call hs u rec0 t0 t1 t2 t7 t14 t15 t16 m_1 (fc+21))
  (x7v call hs u rec0 t0 t1 t2 t7 t14 t15 t16 m (fc+4))
noncomputable def xb4 (call:x1p9) (hs:FHs) (u:Nat) (rec0:AV→AV→AV→AV→AV→AV→Mem→Nat→O2) (t0 t1 t2 t14 t15 t16:AV) (m:Mem) (fc:Nat):O2:=
 (sIx 1 t14 t16).bind fun t18=>
  (sLd false 1 t18 m).bind fun t19=>
  (sLd false 1 t1 m).bind fun t20=>
  (sNil t20).bind fun t21=>
  (sFA 0 t21).bind fun t22=>
  (sFA 0 t22).bind fun t23=>
  (sFA 1 t23).bind fun t24=>
  (sLd false 1 t24 m).bind fun t25=>
  (sIx 4 t25 t19).bind fun t27=>
  (sLd true 4 t27 m).bind fun t28=>
  x1po x6 (u,fc+12,6) m fun t6 m_2=>
  sSt 4 t6 t28 m_2 fun m_3=>
  (sFA 1 t6).bind fun t30=>
  (sLd false 1 t30 m_3).bind fun t31=>
  (sFA 3 t6).bind fun t32=>
  (sLd false 1 t32 m_3).bind fun t33=>
  (sLd false 1 t1 m_3).bind fun t34=>
  (sNil t34).bind fun t35=>
  (sFA 2 t35).bind fun t36=>
  (sLd false 1 t36 m_3).bind fun t37=>
  (sIx 1 t37 t19).bind fun t39=>
  (sLd false 1 t39 m_3).bind fun t40=>
  (sSub t33 t40).bind fun t41=>
  (sFA 2 t6).bind fun t42=>
  (sLd false 1 t42 m_3).bind fun t43=>
  (sNeg t43).bind fun t44=>
  (x1pl x7o [(0,1,t19),(1,1,t31),(2,1,(I 1)),(3,1,t41),(4,1,t44)]).bind fun t45=>
  x1po x7o (u,fc+31,7) m_3 fun t7 m_4=>
  sSt 5 t7 t45 m_4 fun m_5=>
  bif (x1pd (tR t30) (some [],some [(u,fc+31,7)])&&(x1pd (tR t32) (some [],some [(u,fc+31,7)])&&(x1pd (tR t1) (some [],some [(u,fc+31,7)])&&(x1pd (tR t36) (some [],some [(u,fc+31,7)])&&(x1pd (tR t39) (some [],some [(u,fc+31,7)])&&(x1pd (tR t42) (some [],some [(u,fc+31,7)])&&true)))))) then
  x7w call hs u rec0 t0 t1 t2 t19 t6 t7 t14 t15 t16 m_5 (fc+33) else none
noncomputable def xee (call:x1p9) (hs:FHs) (u:Nat) (rec0:AV→AV→AV→AV→AV→AV→Mem→Nat→O2) (t0 t1 t2 t14 t15 t16:AV) (m:Mem) (fc:Nat):O2:=
 (sLt t16 t15).bind fun t17=>
  x1pc t17
  (xb4 call hs u rec0 t0 t1 t2 t14 t15 t16 m (fc+1))
  ((some (AV.tup [],m)))
noncomputable def x1p (call:x1p9) (hs:FHs) (u:Nat):Nat→AV→AV→AV→AV→AV→AV→Mem→Nat→O2
 | 0=>fun _ _ _ _ _ _ _ _=>none
 | n+1=>fun t0 t1 t2 t14 t15 t16 m fc=>xee call hs u (x1p call hs u n) t0 t1 t2 t14 t15 t16 m fc
noncomputable def xiy (call:x1p9) (hs:FHs) (u:Nat) (t0 t1 t2:AV) (m:Mem) (fc:Nat):O2:=
 (sLd false 1 t1 m).bind fun t8=>
  (sNil t8).bind fun t9=>
  (sFA 5 t9).bind fun t10=>
  (sLd false 1 t10 m).bind fun t11=>
  (sLd false 1 t2 m).bind fun t12=>
  (sIx 1 t11 t12).bind fun t13=>
  (sLd false 1 t13 m).bind fun t14=>
  (sLen Try.prog x5 t14).bind fun t15=>
  x1p call hs u NN t0 t1 t2 t14 t15 (I 0) m (fc+9)
noncomputable def xni (call:x1p9) (hs:FHs) (u:Nat) (t0 t1:AV) (m:Mem) (fc:Nat):O2:=
 (sCvt Try.prog x5k xa t0).bind fun t8=>
  (sCvt Try.prog x5k xa t1).bind fun t10=>
  (sBin Try.prog .mul xa (.tmp 8) (.tmp 10) t8 t10).bind fun t11=>
  (sBin Try.prog .shr xa (.tmp 12) (.const (.int .u64 32)) t11 (AV.sc (.int .u64 32))).bind fun t13=>
  (sCvt Try.prog xa x5k t13).bind fun t14=>
  (sCvt Try.prog xa x5k t11).bind fun t16=>
  some (AV.tup [t14,t16],m)
noncomputable def xnj (call:x1p9) (hs:FHs) (u:Nat) (t0 t1:AV) (m:Mem) (fc:Nat):O2:=
 (sBin Try.prog .and xa (.tmp 14) (.const (.int .u64 4294967295)) t0 (AV.sc (.int .u64 4294967295))).bind fun t15=>
  (sBin Try.prog .shr xa (.tmp 16) (.const (.int .u64 32)) t0 (AV.sc (.int .u64 32))).bind fun t17=>
  (sBin Try.prog .and xa (.tmp 18) (.const (.int .u64 4294967295)) t1 (AV.sc (.int .u64 4294967295))).bind fun t19=>
  (sBin Try.prog .shr xa (.tmp 20) (.const (.int .u64 32)) t1 (AV.sc (.int .u64 32))).bind fun t21=>
  (sBin Try.prog .mul xa (.tmp 22) (.tmp 23) t15 t19).bind fun t24=>
  (sBin Try.prog .mul xa (.tmp 25) (.tmp 26) t17 t19).bind fun t27=>
  (sBin Try.prog .shr xa (.tmp 28) (.const (.int .u64 32)) t24 (AV.sc (.int .u64 32))).bind fun t29=>
  (sBin Try.prog .add xa (.tmp 27) (.tmp 29) t27 t29).bind fun t30=>
  (sBin Try.prog .and xa (.tmp 31) (.const (.int .u64 4294967295)) t30 (AV.sc (.int .u64 4294967295))).bind fun t32=>
  (sBin Try.prog .shr xa (.tmp 33) (.const (.int .u64 32)) t30 (AV.sc (.int .u64 32))).bind fun t34=>
  (sBin Try.prog .mul xa (.tmp 36) (.tmp 37) t15 t21).bind fun t38=>
  (sBin Try.prog .add xa (.tmp 35) (.tmp 38) t32 t38).bind fun t39=>
  (sBin Try.prog .mul xa (.tmp 40) (.tmp 41) t17 t21).bind fun t42=>
  (sBin Try.prog .add xa (.tmp 42) (.tmp 43) t42 t34).bind fun t44=>
  (sBin Try.prog .shr xa (.tmp 45) (.const (.int .u64 32)) t39 (AV.sc (.int .u64 32))).bind fun t46=>
  (sBin Try.prog .add xa (.tmp 44) (.tmp 46) t44 t46).bind fun t47=>
  (sBin Try.prog .mul xa (.tmp 48) (.tmp 49) t0 t1).bind fun t50=>
  some (AV.tup [t47,t50],m)
end Go.Ix
