import Derived.Test.YtljibmnhhdiakaaFxConst
set_option linter.unusedVariables false
namespace Go.Ix
open Go.Proofs
noncomputable def x64 (call:x1p9) (hs:FHs) (u:Nat) (m:Mem) (fc:Nat):O2:=
 some ((B true),m)
noncomputable def xlw (call:x1p9) (hs:FHs) (u:Nat) (rec0:AV→AV→AV→Mem→Nat→O2) (t3 t12 t13:AV) (m:Mem) (fc:Nat):O2:=
 (sLen Try.prog x5 t12).bind fun t88=>
  (sLt t13 t88).bind fun t89=>
  x1pc t89
  ((x1rc Try.prog x5 t12 none (some t13)).bind fun t94=>
  (sIx 1 t12 t13).bind fun t97=>
  (sLd false 1 t97 m).bind fun t98=>
  (x1pb call x4a [t94,t98] m).bind fun p99=>
  (sNot p99.1).bind fun t100=>
  (bif sW t100 true then some (t3,p99.2) else some (U,p99.2)).bind fun p102=>
  (bif sW t100 true then some (t13,p102.2) else some (U,p102.2)).bind fun p103=>
  (bif sW t100 true then (sIx 1 p102.1 p103.1).bind fun v=>some (v,p103.2) else some (U,p103.2)).bind fun p104=>
  (bif sW t100 true then (sLd false 1 p104.1 p104.2).bind fun v=>some (v,p104.2) else some (U,p104.2)).bind fun p105=>
  (bif sW t100 true then (sNe p105.1 (I 0)).bind fun v=>some (v,p105.2) else some (U,p105.2)).bind fun p106=>
  (x1ph t100 p106.1 (B false)).bind fun t107=>
  x1pc t107
  (some ((B false),p106.2))
  ((sAdd t13 (I 1)).bind fun t91=>
  rec0 t3 t12 t91 p106.2 (fc+23)))
  (x64 call hs u m (fc+4))
noncomputable def x6t (call:x1p9) (hs:FHs) (u:Nat):Nat→AV→AV→AV→Mem→Nat→O2
 | 0=>fun _ _ _ _ _=>none
 | n+1=>fun t3 t12 t13 m fc=>xlw call hs u (x6t call hs u n) t3 t12 t13 m fc
noncomputable def xgo (call:x1p9) (hs:FHs) (u:Nat) (t3 t12:AV) (m:Mem) (fc:Nat):O2:=
 x6t call hs u NN t3 t12 (I 0) m (fc+1)
noncomputable def xlx (call:x1p9) (hs:FHs) (u:Nat) (t0:AV) (m:Mem) (fc:Nat):O2:=
 sBox t0 (u,fc,1) m fun t1 m_1=>
  (x1pb call x15 [] m_1).bind fun p14=>
  (sNot p14.1).bind fun t15=>
  x1pc t15
  (some ((B false),p14.2))
  ((sLd true 2 t1 p14.2).bind fun t16=>
  (x1pb call x47 [t16] p14.2).bind fun p17=>
  (sNot p17.1).bind fun t18=>
  x1pc t18
  (some ((B true),p17.2))
  ((sLd true 2 t1 p17.2).bind fun t20=>
  (x1pb call x1d [t20] p17.2).bind fun p21=>
  (x1pb call x5p [p21.1] p21.2).bind fun p22=>
  (sExt p22.1 0).bind fun t23=>
  (sExt p22.1 1).bind fun t24=>
  (sExt p22.1 2).bind fun t25=>
  (sExt p22.1 3).bind fun t26=>
  (sLd true 2 t1 p22.2).bind fun t27=>
  (x1pb call x2y [t27] p22.2).bind fun p28=>
  (sNe p28.1 (I 0)).bind fun t30=>
  x1pc t30
  ((sEq t26 p28.1).bind fun t33=>
  (bif sW t33 true then some (t23,p28.2) else some (U,p28.2)).bind fun p35=>
  (bif sW t33 true then (sLen Try.prog x5 p35.1).bind fun v=>some (v,p35.2) else some (U,p35.2)).bind fun p36=>
  (bif sW t33 true then some (t24,p36.2) else some (U,p36.2)).bind fun p37=>
  (bif sW t33 true then (sLen Try.prog x5 p37.1).bind fun v=>some (v,p37.2) else some (U,p37.2)).bind fun p38=>
  (bif sW t33 true then (sAdd p36.1 p38.1).bind fun v=>some (v,p38.2) else some (U,p38.2)).bind fun p39=>
  (bif sW t33 true then (sEq p39.1 (I 0)).bind fun v=>some (v,p39.2) else some (U,p39.2)).bind fun p40=>
  (x1ph t33 p40.1 (B false)).bind fun t41=>
  (bif sW t41 true then some (t25,p40.2) else some (U,p40.2)).bind fun p43=>
  (bif sW t41 true then (sEq p43.1 (I 0)).bind fun v=>some (v,p43.2) else some (U,p43.2)).bind fun p44=>
  (x1ph t41 p44.1 (B false)).bind fun t45=>
  some (t45,p44.2))
  ((sLd true 2 t1 p28.2).bind fun t47=>
  (x1pb call x6l [t47,t23] p28.2).bind fun p49=>
  (sExt p49.1 0).bind fun t50=>
  (sExt p49.1 1).bind fun t51=>
  (sLd true 2 t1 p49.2).bind fun t53=>
  (x1pb call x2z [t53,t24] p49.2).bind fun p55=>
  (sExt p55.1 0).bind fun t56=>
  (sExt p55.1 1).bind fun t57=>
  (sNe t26 (I 0)).bind fun t59=>
  (bif sW t59 false then some (t51,p55.2) else some (U,p55.2)).bind fun p61=>
  (bif sW t59 false then (sNe p61.1 (I 0)).bind fun v=>some (v,p61.2) else some (U,p61.2)).bind fun p62=>
  (x1ph t59 (B true) p62.1).bind fun t63=>
  (bif sW t63 false then some (t57,p62.2) else some (U,p62.2)).bind fun p65=>
  (bif sW t63 false then (sNe p65.1 (I 0)).bind fun v=>some (v,p65.2) else some (U,p65.2)).bind fun p66=>
  (x1ph t63 (B true) p66.1).bind fun t67=>
  (bif sW t67 false then some (t50,p66.2) else some (U,p66.2)).bind fun p69=>
  (bif sW t67 false then some (t25,p69.2) else some (U,p69.2)).bind fun p70=>
  (bif sW t67 false then (sNe p69.1 p70.1).bind fun v=>some (v,p70.2) else some (U,p70.2)).bind fun p71=>
  (x1ph t67 (B true) p71.1).bind fun t72=>
  (bif sW t72 false then some (t56,p71.2) else some (U,p71.2)).bind fun p74=>
  (bif sW t72 false then some (t25,p74.2) else some (U,p74.2)).bind fun p75=>
  (bif sW t72 false then (sNe p74.1 p75.1).bind fun v=>some (v,p75.2) else some (U,p75.2)).bind fun p76=>
  (x1ph t72 (B true) p76.1).bind fun t77=>
  (bif sW t77 false then some (t25,p76.2) else some (U,p76.2)).bind fun p79=>
  (bif sW t77 false then (sLd true 2 t1 p79.2).bind fun v=>some (v,p79.2) else some (U,p79.2)).bind fun p80=>
  (bif sW t77 false then (x1pb call x48 [p80.1] p80.2).bind fun p=>some (p.1,p.2) else some (U,p80.2)).bind fun p81=>
  (bif sW t77 false then (sNe p79.1 p81.1).bind fun v=>some (v,p81.2) else some (U,p81.2)).bind fun p82=>
  (x1ph t77 (B true) p82.1).bind fun t83=>
  x1pc t83
  (some ((B false),p82.2))
  ((sLd true 2 t1 p82.2).bind fun t84=>
  (x1pb call x49 [t84] p82.2).bind fun p85=>
  xgo call hs u t23 p85.1 p85.2 (fc+69)))))
noncomputable def xly (call:x1p9) (hs:FHs) (u:Nat) (t0:AV) (m:Mem) (fc:Nat):O2:=
 sBox t0 (u,fc,1) m fun t1 m_1=>
  (x1pb call x15 [] m_1).bind fun p6=>
  (sNot p6.1).bind fun t7=>
  x1pc t7
  (some ((B false),p6.2))
  ((sLd true 5 t1 p6.2).bind fun t8=>
  (x1pb call x4b [t8] p6.2).bind fun p9=>
  (sNot p9.1).bind fun t10=>
  x1pc t10
  (some ((B true),p9.2))
  ((sLd true 5 t1 p9.2).bind fun t12=>
  (x1pb call x2b [t12] p9.2).bind fun p13=>
  (x1pb call x8j [p13.1] p13.2).bind fun p14=>
  (sExt p14.1 0).bind fun t15=>
  (sExt p14.1 1).bind fun t16=>
  x1po xo (u,fc+13,3) p14.2 fun t3 m_2=>
  sSt 2 t3 t15 m_2 fun m_3=>
  (sLd true 5 t1 m_3).bind fun t17=>
  (x1pb call x30 [t17] m_3).bind fun p18=>
  (sLd true 5 t1 p18.2).bind fun t19=>
  (x1pb call x2b [t19] p18.2).bind fun p20=>
  (x1pb call x1s [p20.1] p20.2).bind fun p21=>
  (sNe p21.1 p18.1).bind fun t23=>
  (bif sW t23 false then some (t16,p21.2) else some (U,p21.2)).bind fun p25=>
  (bif sW t23 false then some (p18.1,p25.2) else some (U,p25.2)).bind fun p26=>
  (bif sW t23 false then (sNe p25.1 p26.1).bind fun v=>some (v,p26.2) else some (U,p26.2)).bind fun p27=>
  (x1ph t23 (B true) p27.1).bind fun t28=>
  x1pc t28
  (some ((B false),p27.2))
  ((sNe p18.1 (I 0)).bind fun t30=>
  x1pc t30
  ((sLd true 2 t3 p27.2).bind fun t31=>
  (x1pl xo []).bind fun t32=>
  (x1pb call x6m [t31,t32] p27.2).bind fun p33=>
  some (p33.1,p33.2))
  ((sLd true 2 t3 p27.2).bind fun t34=>
  (sLd true 5 t1 p27.2).bind fun t35=>
  (x1pb call x31 [t35] p27.2).bind fun p36=>
  (x1pb call x6m [t34,p36.1] p36.2).bind fun p37=>
  bif (cAp none (tR t3) (mkM 0 [t35])&&true) then
  some (p37.1,p37.2) else none))))
noncomputable def x65 (call:x1p9) (hs:FHs) (u:Nat) (t3 t7 t11:AV) (m:Mem) (fc:Nat):O2:=
 (sLd true 2 t3 m).bind fun t82=>
  (x1pb call x1d [t82] m).bind fun p83=>
  (x1pb call x5q [p83.1,t11] p83.2).bind fun p85=>
  (sExt p85.1 0).bind fun t86=>
  (sExt p85.1 1).bind fun t87=>
  (sEq t87 (I 0)).bind fun t89=>
  (bif sW t89 true then some (t86,p85.2) else some (U,p85.2)).bind fun p91=>
  (bif sW t89 true then some (t7,p91.2) else some (U,p91.2)).bind fun p92=>
  (bif sW t89 true then (sEq p91.1 p92.1).bind fun v=>some (v,p92.2) else some (U,p92.2)).bind fun p93=>
  (x1ph t89 p93.1 (B false)).bind fun t94=>
  some (t94,p93.2)
noncomputable def xlz (call:x1p9) (hs:FHs) (u:Nat) (rec0:AV→AV→AV→AV→AV→AV→Mem→Nat→O2) (t1 t2 t3 t7 t11 t12:AV) (m:Mem) (fc:Nat):O2:=
 (sLen Try.prog x5 t1).bind fun t60=>
  (sLt t12 t60).bind fun t61=>
  x1pc t61
  ((sIx 1 t1 t12).bind fun t66=>
  (sLd false 1 t66 m).bind fun t67=>
  (sAdd t67 t2).bind fun t69=>
  (x1pb call xb [t69,(I (-1000000)),(I 1000000)] m).bind fun p70=>
  (sNot p70.1).bind fun t71=>
  x1pc t71
  (some ((B true),p70.2))
  ((sIx 1 t1 t12).bind fun t75=>
  (sLd false 1 t75 p70.2).bind fun t76=>
  (sAdd t76 t2).bind fun t78=>
  x1pt x1q0 [(0,1,t78)] 1 1 (u,fc+19,79) p70.2 fun t79 m_1=>
  sApp 1 8 (u,fc+20,80) (elems m_1.get 1 t79) t11 m_1 fun t80 m_2=>
  (sAdd t12 (I 1)).bind fun t63=>
  rec0 t1 t2 t3 t7 t80 t63 m_2 (fc+25)))
  (x65 call hs u t3 t7 t11 m (fc+4))
noncomputable def x6u (call:x1p9) (hs:FHs) (u:Nat):Nat→AV→AV→AV→AV→AV→AV→Mem→Nat→O2
 | 0=>fun _ _ _ _ _ _ _ _=>none
 | n+1=>fun t1 t2 t3 t7 t11 t12 m fc=>xlz call hs u (x6u call hs u n) t1 t2 t3 t7 t11 t12 m fc
noncomputable def xgp (call:x1p9) (hs:FHs) (u:Nat) (t1 t2 t3 t7 t11:AV) (m:Mem) (fc:Nat):O2:=
 x6u call hs u NN t1 t2 t3 t7 t11 (I 0) m (fc+1)
noncomputable def xbo (call:x1p9) (hs:FHs) (u:Nat) (t1 t2 t3 t7 t8 t9 t10:AV) (m:Mem) (fc:Nat):O2:=
 (sNe t8 t9).bind fun t45=>
  (bif sW t45 false then some (t7,m) else some (U,m)).bind fun p47=>
  (bif sW t45 false then some (t10,p47.2) else some (U,p47.2)).bind fun p48=>
  (bif sW t45 false then (sNe p47.1 p48.1).bind fun v=>some (v,p48.2) else some (U,p48.2)).bind fun p49=>
  (x1ph t45 (B true) p49.1).bind fun t50=>
  x1pc t50
  (some ((B false),p49.2))
  ((sNe t9 (I 0)).bind fun t52=>
  (bif sW t52 false then some (t2,p49.2) else some (U,p49.2)).bind fun p54=>
  (bif sW t52 false then (x1pb call xb [p54.1,(I (-100)),(I 100)] p54.2).bind fun p=>some (p.1,p.2) else some (U,p54.2)).bind fun p55=>
  (bif sW t52 false then (sNot p55.1).bind fun v=>some (v,p55.2) else some (U,p55.2)).bind fun p56=>
  (x1ph t52 (B true) p56.1).bind fun t57=>
  x1pc t57
  (some ((B true),p56.2))
  (xgp call hs u t1 t2 t3 t7 nilS p56.2 (fc+16)))
noncomputable def xgq (call:x1p9) (hs:FHs) (u:Nat) (t1 t2 t3 t7 t8 t9 t10:AV) (m:Mem) (fc:Nat):O2:=
 (sEq t9 (I 0)).bind fun t36=>
  x1pc t36
  ((sLd true 2 t3 m).bind fun t38=>
  (x1pb call x6l [t38,t1] m).bind fun p40=>
  (sExt p40.1 0).bind fun t41=>
  (sExt p40.1 1).bind fun t42=>
  xbo call hs u t1 t2 t3 t7 t8 t42 t41 p40.2 (fc+10))
  (xbo call hs u t1 t2 t3 t7 t8 t9 t10 m (fc+2))
noncomputable def xm0 (call:x1p9) (hs:FHs) (u:Nat) (t0 t1 t2:AV) (m:Mem) (fc:Nat):O2:=
 sBox t0 (u,fc,3) m fun t3 m_3=>
  (x1pb call x15 [] m_3).bind fun p15=>
  (sNot p15.1).bind fun t16=>
  x1pc t16
  (some ((B false),p15.2))
  ((sLd true 2 t3 p15.2).bind fun t17=>
  (x1pb call x47 [t17] p15.2).bind fun p18=>
  (sNot p18.1).bind fun t19=>
  (bif sW t19 false then some (t1,p18.2) else some (U,p18.2)).bind fun p21=>
  (bif sW t19 false then (sLen Try.prog x5 p21.1).bind fun v=>some (v,p21.2) else some (U,p21.2)).bind fun p22=>
  (bif sW t19 false then (sGt p22.1 (I 210)).bind fun v=>some (v,p22.2) else some (U,p22.2)).bind fun p23=>
  (x1ph t19 (B true) p23.1).bind fun t24=>
  x1pc t24
  (some ((B true),p23.2))
  ((sLd true 2 t3 p23.2).bind fun t26=>
  (x1pb call x1d [t26] p23.2).bind fun p27=>
  (x1pb call xf [t1] p27.2).bind fun p29=>
  (x1pb call x5q [p27.1,p29.1] p29.2).bind fun p30=>
  (sExt p30.1 0).bind fun t31=>
  (sExt p30.1 1).bind fun t32=>
  (sLd true 2 t3 p30.2).bind fun t33=>
  (x1pb call x2y [t33] p30.2).bind fun p34=>
  xgq call hs u t1 t2 t3 t31 t32 p34.1 (I 0) p34.2 (fc+26)))
noncomputable def x4z (call:x1p9) (hs:FHs) (u:Nat) (m:Mem) (fc:Nat):O2:=
 some ((B true),m)
noncomputable def xbp (call:x1p9) (hs:FHs) (u:Nat) (rec0:AV→AV→AV→AV→Mem→Nat→O2) (t1 t3 t15 t16:AV) (m:Mem) (fc:Nat):O2:=
 (sLen Try.prog x5 t15).bind fun t112=>
  (sLt t16 t112).bind fun t113=>
  x1pc t113
  ((x1rc Try.prog x5 t15 none (some t16)).bind fun t118=>
  (sIx 1 t15 t16).bind fun t121=>
  (sLd false 1 t121 m).bind fun t122=>
  (x1pb call x4a [t118,t122] m).bind fun p123=>
  (sNot p123.1).bind fun t124=>
  (bif sW t124 true then (sFA 2 t3).bind fun v=>some (v,p123.2) else some (U,p123.2)).bind fun p126=>
  (bif sW t124 true then (sLd false 1 p126.1 p126.2).bind fun v=>some (v,p126.2) else some (U,p126.2)).bind fun p127=>
  (bif sW t124 true then some (t16,p127.2) else some (U,p127.2)).bind fun p128=>
  (bif sW t124 true then (sIx 1 p127.1 p128.1).bind fun v=>some (v,p128.2) else some (U,p128.2)).bind fun p129=>
  (bif sW t124 true then (sLd false 1 p129.1 p129.2).bind fun v=>some (v,p129.2) else some (U,p129.2)).bind fun p130=>
  (bif sW t124 true then (sFA 0 t1).bind fun v=>some (v,p130.2) else some (U,p130.2)).bind fun p131=>
  (bif sW t124 true then (sFA 2 p131.1).bind fun v=>some (v,p131.2) else some (U,p131.2)).bind fun p132=>
  (bif sW t124 true then (sLd false 1 p132.1 p132.2).bind fun v=>some (v,p132.2) else some (U,p132.2)).bind fun p133=>
  (bif sW t124 true then some (t16,p133.2) else some (U,p133.2)).bind fun p134=>
  (bif sW t124 true then (sIx 1 p133.1 p134.1).bind fun v=>some (v,p134.2) else some (U,p134.2)).bind fun p135=>
  (bif sW t124 true then (sLd false 1 p135.1 p135.2).bind fun v=>some (v,p135.2) else some (U,p135.2)).bind fun p136=>
  (bif sW t124 true then (sNe p130.1 p136.1).bind fun v=>some (v,p136.2) else some (U,p136.2)).bind fun p137=>
  (x1ph t124 p137.1 (B false)).bind fun t138=>
  x1pc t138
  (some ((B false),p137.2))
  ((sAdd t16 (I 1)).bind fun t115=>
  rec0 t1 t3 t15 t115 p137.2 (fc+30)))
  (x4z call hs u m (fc+4))
noncomputable def x36 (call:x1p9) (hs:FHs) (u:Nat):Nat→AV→AV→AV→AV→Mem→Nat→O2
 | 0=>fun _ _ _ _ _ _=>none
 | n+1=>fun t1 t3 t15 t16 m fc=>xbp call hs u (x36 call hs u n) t1 t3 t15 t16 m fc
noncomputable def xbq (call:x1p9) (hs:FHs) (u:Nat) (t1 t3 t15:AV) (m:Mem) (fc:Nat):O2:=
 x36 call hs u NN t1 t3 t15 (I 0) m (fc+1)
noncomputable def xgr (call:x1p9) (hs:FHs) (u:Nat) (t0:AV) (m:Mem) (fc:Nat):O2:=
 sBox t0 (u,fc,1) m fun t1 m_1=>
  (x1pb call x15 [] m_1).bind fun p17=>
  (sNot p17.1).bind fun t18=>
  x1pc t18
  (some ((B false),p17.2))
  ((sLd true 5 t1 p17.2).bind fun t19=>
  (x1pb call x4b [t19] p17.2).bind fun p20=>
  (sNot p20.1).bind fun t21=>
  x1pc t21
  (some ((B true),p20.2))
  ((sLd true 5 t1 p20.2).bind fun t23=>
  (x1pb call x2b [t23] p20.2).bind fun p24=>
  (x1pb call x32 [p24.1] p24.2).bind fun p25=>
  (sExt p25.1 0).bind fun t26=>
  (sExt p25.1 1).bind fun t27=>
  (sExt p25.1 2).bind fun t28=>
  (sExt p25.1 3).bind fun t29=>
  x1po xp (u,fc+15,3) p25.2 fun t3 m_2=>
  sSt 3 t3 t26 m_2 fun m_3=>
  (sLd true 5 t1 m_3).bind fun t30=>
  (x1pb call x30 [t30] m_3).bind fun p31=>
  (sNe p31.1 (I 0)).bind fun t33=>
  x1pc t33
  ((sEq t29 p31.1).bind fun t36=>
  (bif sW t36 true then (sLd true 3 t3 p31.2).bind fun v=>some (v,p31.2) else some (U,p31.2)).bind fun p38=>
  (bif sW t36 true then (x1pl xp []).bind fun v=>some (v,p38.2) else some (U,p38.2)).bind fun p39=>
  (bif sW t36 true then (x1pb call x5s [p38.1,p39.1] p39.2).bind fun p=>some (p.1,p.2) else some (U,p39.2)).bind fun p40=>
  (x1ph t36 p40.1 (B false)).bind fun t41=>
  (bif sW t41 true then some (t27,p40.2) else some (U,p40.2)).bind fun p43=>
  (bif sW t41 true then (sLen Try.prog x5 p43.1).bind fun v=>some (v,p43.2) else some (U,p43.2)).bind fun p44=>
  (bif sW t41 true then (sEq p44.1 (I 0)).bind fun v=>some (v,p44.2) else some (U,p44.2)).bind fun p45=>
  (x1ph t41 p45.1 (B false)).bind fun t46=>
  (bif sW t46 true then some (t28,p45.2) else some (U,p45.2)).bind fun p48=>
  (bif sW t46 true then (sEq p48.1 (I 0)).bind fun v=>some (v,p48.2) else some (U,p48.2)).bind fun p49=>
  (x1ph t46 p49.1 (B false)).bind fun t50=>
  some (t50,p49.2))
  ((sLd true 5 t1 p31.2).bind fun t51=>
  (x1pb call x31 [t51] p31.2).bind fun p52=>
  x1po xo (u,fc+27,8) p52.2 fun t8 m_4=>
  sSt 2 t8 p52.1 m_4 fun m_5=>
  (sLd true 5 t1 m_5).bind fun t54=>
  (sLd true 3 t3 m_5).bind fun t55=>
  (x1pb call x4d [t54,t55] m_5).bind fun p56=>
  (sExt p56.1 0).bind fun t57=>
  (sExt p56.1 1).bind fun t58=>
  (sLd true 2 t8 p56.2).bind fun t60=>
  (x1pb call x2z [t60,t27] p56.2).bind fun p62=>
  (sExt p62.1 0).bind fun t63=>
  (sExt p62.1 1).bind fun t64=>
  (sLd true 5 t1 p62.2).bind fun t66=>
  (x1pb call x2b [t66] p62.2).bind fun p67=>
  (x1pb call xf [t27] p67.2).bind fun p69=>
  (x1pb call x5t [p67.1,p69.1] p69.2).bind fun p70=>
  (sExt p70.1 0).bind fun t71=>
  (sExt p70.1 1).bind fun t72=>
  (sNe t29 (I 0)).bind fun t74=>
  (bif sW t74 false then some (t58,p70.2) else some (U,p70.2)).bind fun p76=>
  (bif sW t74 false then (sNe p76.1 (I 0)).bind fun v=>some (v,p76.2) else some (U,p76.2)).bind fun p77=>
  (x1ph t74 (B true) p77.1).bind fun t78=>
  (bif sW t78 false then some (t64,p77.2) else some (U,p77.2)).bind fun p80=>
  (bif sW t78 false then (sNe p80.1 (I 0)).bind fun v=>some (v,p80.2) else some (U,p80.2)).bind fun p81=>
  (x1ph t78 (B true) p81.1).bind fun t82=>
  (bif sW t82 false then some (t72,p81.2) else some (U,p81.2)).bind fun p84=>
  (bif sW t82 false then (sNe p84.1 (I 0)).bind fun v=>some (v,p84.2) else some (U,p84.2)).bind fun p85=>
  (x1ph t82 (B true) p85.1).bind fun t86=>
  (bif sW t86 false then some (t57,p85.2) else some (U,p85.2)).bind fun p88=>
  (bif sW t86 false then some (t28,p88.2) else some (U,p88.2)).bind fun p89=>
  (bif sW t86 false then (sNe p88.1 p89.1).bind fun v=>some (v,p89.2) else some (U,p89.2)).bind fun p90=>
  (x1ph t86 (B true) p90.1).bind fun t91=>
  (bif sW t91 false then some (t63,p90.2) else some (U,p90.2)).bind fun p93=>
  (bif sW t91 false then some (t28,p93.2) else some (U,p93.2)).bind fun p94=>
  (bif sW t91 false then (sNe p93.1 p94.1).bind fun v=>some (v,p94.2) else some (U,p94.2)).bind fun p95=>
  (x1ph t91 (B true) p95.1).bind fun t96=>
  (bif sW t96 false then some (t71,p95.2) else some (U,p95.2)).bind fun p98=>
  (bif sW t96 false then some (t28,p98.2) else some (U,p98.2)).bind fun p99=>
  (bif sW t96 false then (sNe p98.1 p99.1).bind fun v=>some (v,p99.2) else some (U,p99.2)).bind fun p100=>
  (x1ph t96 (B true) p100.1).bind fun t101=>
  (bif sW t101 false then some (t28,p100.2) else some (U,p100.2)).bind fun p103=>
  (bif sW t101 false then (sLd true 2 t8 p103.2).bind fun v=>some (v,p103.2) else some (U,p103.2)).bind fun p104=>
  (bif sW t101 false then (x1pb call x48 [p104.1] p104.2).bind fun p=>some (p.1,p.2) else some (U,p104.2)).bind fun p105=>
  (bif sW t101 false then (sNe p103.1 p105.1).bind fun v=>some (v,p105.2) else some (U,p105.2)).bind fun p106=>
  (x1ph t101 (B true) p106.1).bind fun t107=>
  x1pc t107
  (some ((B false),p106.2))
  ((sLd true 2 t8 p106.2).bind fun t108=>
  (x1pb call x49 [t108] p106.2).bind fun p109=>
  xbq call hs u t1 t3 p109.1 p109.2 (fc+93)))))
noncomputable def xbr (call:x1p9) (hs:FHs) (u:Nat) (t5 t6 t7 t8:AV) (m:Mem) (fc:Nat):O2:=
 (sEq t6 t7).bind fun t39=>
  (bif sW t39 true then some (t5,m) else some (U,m)).bind fun p41=>
  (bif sW t39 true then some (t8,p41.2) else some (U,p41.2)).bind fun p42=>
  (bif sW t39 true then (sEq p41.1 p42.1).bind fun v=>some (v,p42.2) else some (U,p42.2)).bind fun p43=>
  (x1ph t39 p43.1 (B false)).bind fun t44=>
  some (t44,p43.2)
noncomputable def xgs (call:x1p9) (hs:FHs) (u:Nat) (t1 t2 t5 t6 t7 t8:AV) (m:Mem) (fc:Nat):O2:=
 (sEq t7 (I 0)).bind fun t30=>
  x1pc t30
  ((sLd true 2 t2 m).bind fun t32=>
  (x1pb call x2z [t32,t1] m).bind fun p34=>
  (sExt p34.1 0).bind fun t35=>
  (sExt p34.1 1).bind fun t36=>
  xbr call hs u t5 t6 t36 t35 p34.2 (fc+10))
  (xbr call hs u t5 t6 t7 t8 m (fc+2))
noncomputable def xm1 (call:x1p9) (hs:FHs) (u:Nat) (t0 t1:AV) (m:Mem) (fc:Nat):O2:=
 sBox t0 (u,fc,2) m fun t2 m_1=>
  (x1pb call x15 [] m_1).bind fun p9=>
  (sNot p9.1).bind fun t10=>
  x1pc t10
  (some ((B false),p9.2))
  ((sLd true 2 t2 p9.2).bind fun t11=>
  (x1pb call x47 [t11] p9.2).bind fun p12=>
  (sNot p12.1).bind fun t13=>
  (bif sW t13 false then some (t1,p12.2) else some (U,p12.2)).bind fun p15=>
  (bif sW t13 false then (sLen Try.prog x5 p15.1).bind fun v=>some (v,p15.2) else some (U,p15.2)).bind fun p16=>
  (bif sW t13 false then (sGt p16.1 (I 20)).bind fun v=>some (v,p16.2) else some (U,p16.2)).bind fun p17=>
  (x1ph t13 (B true) p17.1).bind fun t18=>
  x1pc t18
  (some ((B true),p17.2))
  ((sLd true 2 t2 p17.2).bind fun t20=>
  (x1pb call x1d [t20] p17.2).bind fun p21=>
  (x1pb call xf [t1] p21.2).bind fun p23=>
  (x1pb call x5u [p21.1,p23.1] p23.2).bind fun p24=>
  (sExt p24.1 0).bind fun t25=>
  (sExt p24.1 1).bind fun t26=>
  (sLd true 2 t2 p24.2).bind fun t27=>
  (x1pb call x2y [t27] p24.2).bind fun p28=>
  xgs call hs u t1 t2 t25 t26 p28.1 (I 0) p28.2 (fc+26)))
noncomputable def xm2 (call:x1p9) (hs:FHs) (u:Nat) (t0 t1 t2:AV) (m:Mem) (fc:Nat):O2:=
 sBox t0 (u,fc,3) m fun t3 m_1=>
  (x1pb call x15 [] m_1).bind fun p17=>
  (sNot p17.1).bind fun t18=>
  x1pc t18
  (some ((B false),p17.2))
  ((sLd true 2 t3 p17.2).bind fun t19=>
  (x1pb call x8s [t19] p17.2).bind fun p20=>
  (sNot p20.1).bind fun t21=>
  (bif sW t21 false then some (t1,p20.2) else some (U,p20.2)).bind fun p23=>
  (bif sW t21 false then (sLen Try.prog x5 p23.1).bind fun v=>some (v,p23.2) else some (U,p23.2)).bind fun p24=>
  (bif sW t21 false then (sGt p24.1 (I 20)).bind fun v=>some (v,p24.2) else some (U,p24.2)).bind fun p25=>
  (x1ph t21 (B true) p25.1).bind fun t26=>
  (bif sW t26 false then some (t2,p25.2) else some (U,p25.2)).bind fun p28=>
  (bif sW t26 false then (sLen Try.prog x5 p28.1).bind fun v=>some (v,p28.2) else some (U,p28.2)).bind fun p29=>
  (bif sW t26 false then (sGt p29.1 (I 20)).bind fun v=>some (v,p29.2) else some (U,p29.2)).bind fun p30=>
  (x1ph t26 (B true) p30.1).bind fun t31=>
  x1pc t31
  (some ((B true),p30.2))
  ((sLd true 2 t3 p30.2).bind fun t33=>
  (x1pb call x1d [t33] p30.2).bind fun p34=>
  (x1pb call x5p [p34.1] p34.2).bind fun p35=>
  (sExt p35.1 0).bind fun t36=>
  (sExt p35.1 1).bind fun t37=>
  (sExt p35.1 2).bind fun t38=>
  (sExt p35.1 3).bind fun t39=>
  (sLd true 2 t3 p35.2).bind fun t41=>
  (x1pb call x1d [t41] p35.2).bind fun p42=>
  (x1pb call xf [t1] p42.2).bind fun p44=>
  (x1pb call x5q [p42.1,p44.1] p44.2).bind fun p45=>
  (sExt p45.1 0).bind fun t46=>
  (sExt p45.1 1).bind fun t47=>
  (sLd true 2 t3 p45.2).bind fun t49=>
  (x1pb call x1d [t49] p45.2).bind fun p50=>
  (x1pb call xf [t2] p50.2).bind fun p52=>
  (x1pb call x5u [p50.1,p52.1] p52.2).bind fun p53=>
  (sExt p53.1 0).bind fun t54=>
  (sExt p53.1 1).bind fun t55=>
  (sLd true 2 t3 p53.2).bind fun t57=>
  (x1pb call x1d [t57] p53.2).bind fun p58=>
  (x1pb call xf [t37] p58.2).bind fun p60=>
  (x1pb call x5u [p58.1,p60.1] p60.2).bind fun p61=>
  (sExt p61.1 0).bind fun t62=>
  (sExt p61.1 1).bind fun t63=>
  (sNe t39 (I 0)).bind fun t65=>
  (bif sW t65 false then some (t63,p61.2) else some (U,p61.2)).bind fun p67=>
  (bif sW t65 false then (sNe p67.1 (I 0)).bind fun v=>some (v,p67.2) else some (U,p67.2)).bind fun p68=>
  (x1ph t65 (B true) p68.1).bind fun t69=>
  (bif sW t69 false then some (t62,p68.2) else some (U,p68.2)).bind fun p71=>
  (bif sW t69 false then some (t38,p71.2) else some (U,p71.2)).bind fun p72=>
  (bif sW t69 false then (sNe p71.1 p72.1).bind fun v=>some (v,p72.2) else some (U,p72.2)).bind fun p73=>
  (x1ph t69 (B true) p73.1).bind fun t74=>
  x1pc t74
  (some ((B false),p73.2))
  ((sNe t47 (I 0)).bind fun t76=>
  (bif sW t76 false then some (t46,p73.2) else some (U,p73.2)).bind fun p78=>
  (bif sW t76 false then some (t38,p78.2) else some (U,p78.2)).bind fun p79=>
  (bif sW t76 false then (sGe p78.1 p79.1).bind fun v=>some (v,p79.2) else some (U,p79.2)).bind fun p80=>
  (bif sW t76 false then some (p80.1,p80.2) else some (U,p80.2)).bind fun p81=>
  (bif sW p81.1 true then some (t55,p81.2) else some (U,p81.2)).bind fun p82=>
  (bif sW p81.1 true then (sNe p82.1 (I 0)).bind fun v=>some (v,p82.2) else some (U,p82.2)).bind fun p83=>
  (bif sW p81.1 true then some (p83.1,p83.2) else some (U,p83.2)).bind fun p84=>
  (bif sW p84.1 false then some (t46,p84.2) else some (U,p84.2)).bind fun p85=>
  (bif sW p84.1 false then some (t54,p85.2) else some (U,p85.2)).bind fun p86=>
  (bif sW p84.1 false then (sGe p85.1 p86.1).bind fun v=>some (v,p86.2) else some (U,p86.2)).bind fun p87=>
  (bif sW p81.1 true then (x1ph p84.1 (B true) p87.1).bind fun v=>some (v,p87.2) else some (U,p87.2)).bind fun p88=>
  (bif sW t76 false then (x1ph p81.1 p88.1 (B false)).bind fun v=>some (v,p88.2) else some (U,p88.2)).bind fun p89=>
  (x1ph t76 (B true) p89.1).bind fun t90=>
  (bif sW t90 true then some (t55,p89.2) else some (U,p89.2)).bind fun p92=>
  (bif sW t90 true then (sNe p92.1 (I 0)).bind fun v=>some (v,p92.2) else some (U,p92.2)).bind fun p93=>
  (bif sW t90 true then some (p93.1,p93.2) else some (U,p93.2)).bind fun p94=>
  (bif sW p94.1 false then some (t54,p94.2) else some (U,p94.2)).bind fun p95=>
  (bif sW p94.1 false then some (t38,p95.2) else some (U,p95.2)).bind fun p96=>
  (bif sW p94.1 false then (sLe p95.1 p96.1).bind fun v=>some (v,p96.2) else some (U,p96.2)).bind fun p97=>
  (bif sW t90 true then (x1ph p94.1 (B true) p97.1).bind fun v=>some (v,p97.2) else some (U,p97.2)).bind fun p98=>
  (x1ph t90 p98.1 (B false)).bind fun t99=>
  some (t99,p98.2))))
noncomputable def xbs (call:x1p9) (hs:FHs) (u:Nat) (t5 t6 t7 t8:AV) (m:Mem) (fc:Nat):O2:=
 (sEq t6 t7).bind fun t50=>
  (bif sW t50 true then some (t5,m) else some (U,m)).bind fun p52=>
  (bif sW t50 true then some (t8,p52.2) else some (U,p52.2)).bind fun p53=>
  (bif sW t50 true then (x1pb call x2c [p52.1,p53.1] p53.2).bind fun p=>some (p.1,p.2) else some (U,p53.2)).bind fun p54=>
  (x1ph t50 p54.1 (B false)).bind fun t55=>
  some (t55,p54.2)
noncomputable def xgt (call:x1p9) (hs:FHs) (u:Nat) (t1 t2 t5 t6 t7 t8:AV) (m:Mem) (fc:Nat):O2:=
 (sEq t7 (I 0)).bind fun t41=>
  x1pc t41
  ((sLd true 3 t2 m).bind fun t43=>
  (x1pb call x90 [t43,t1] m).bind fun p45=>
  (sExt p45.1 0).bind fun t46=>
  (sExt p45.1 1).bind fun t47=>
  xbs call hs u t5 t6 t47 t46 p45.2 (fc+10))
  (xbs call hs u t5 t6 t7 t8 m (fc+2))
noncomputable def xm3 (call:x1p9) (hs:FHs) (u:Nat) (t0 t1:AV) (m:Mem) (fc:Nat):O2:=
 sBox t0 (u,fc,2) m fun t2 m_1=>
  (x1pb call x15 [] m_1).bind fun p9=>
  (sNot p9.1).bind fun t10=>
  x1pc t10
  (some ((B false),p9.2))
  ((sFA 2 t2).bind fun t11=>
  (sLd false 1 t11 p9.2).bind fun t12=>
  (sLen Try.prog x5 t12).bind fun t13=>
  (sGt t13 (I 70)).bind fun t14=>
  (bif sW t14 false then some (t1,p9.2) else some (U,p9.2)).bind fun p16=>
  (bif sW t14 false then (sLen Try.prog x5 p16.1).bind fun v=>some (v,p16.2) else some (U,p16.2)).bind fun p17=>
  (bif sW t14 false then (sGt p17.1 (I 30)).bind fun v=>some (v,p17.2) else some (U,p17.2)).bind fun p18=>
  (bif sW t14 false then some (p18.1,p18.2) else some (U,p18.2)).bind fun p19=>
  (bif sW p19.1 true then some (t1,p19.2) else some (U,p19.2)).bind fun p20=>
  (bif sW p19.1 true then (sLen Try.prog x5 p20.1).bind fun v=>some (v,p20.2) else some (U,p20.2)).bind fun p21=>
  (bif sW p19.1 true then (sLe p21.1 (I 200)).bind fun v=>some (v,p21.2) else some (U,p21.2)).bind fun p22=>
  (bif sW t14 false then (x1ph p19.1 p22.1 (B false)).bind fun v=>some (v,p22.2) else some (U,p22.2)).bind fun p23=>
  (x1ph t14 (B true) p23.1).bind fun t24=>
  (bif sW t24 false then some (t1,p23.2) else some (U,p23.2)).bind fun p26=>
  (bif sW t24 false then (sLen Try.prog x5 p26.1).bind fun v=>some (v,p26.2) else some (U,p26.2)).bind fun p27=>
  (bif sW t24 false then (sGt p27.1 (I 202)).bind fun v=>some (v,p27.2) else some (U,p27.2)).bind fun p28=>
  (x1ph t24 (B true) p28.1).bind fun t29=>
  x1pc t29
  (some ((B true),p28.2))
  ((sLd true 3 t2 p28.2).bind fun t31=>
  (x1pb call x4e [t31] p28.2).bind fun p32=>
  (x1pb call xf [t1] p32.2).bind fun p34=>
  (x1pb call x8x [p32.1,p34.1] p34.2).bind fun p35=>
  (sExt p35.1 0).bind fun t36=>
  (sExt p35.1 1).bind fun t37=>
  (sLd true 3 t2 p35.2).bind fun t38=>
  (x1pb call x8z [t38] p35.2).bind fun p39=>
  xgt call hs u t1 t2 t36 t37 p39.1 nilS p39.2 (fc+37)))
noncomputable def xm4 (call:x1p9) (hs:FHs) (u:Nat) (m:Mem) (fc:Nat):O2:=
 (x1pb call x6o [(I 2)] m).bind fun p14=>
  (x1pb call x5p [p14.1] p14.2).bind fun p15=>
  (sExt p15.1 0).bind fun t16=>
  (sExt p15.1 1).bind fun t17=>
  (sExt p15.1 2).bind fun t18=>
  (sExt p15.1 3).bind fun t19=>
  (x1pb call x6o [(I 2)] p15.2).bind fun p21=>
  (x1pb call x8o [p21.1,(I 0),(I 1)] p21.2).bind fun p22=>
  (sExt p22.1 0).bind fun t23=>
  (sExt p22.1 1).bind fun t24=>
  x1po x66 (u,fc+17,5) p22.2 fun t5 m_1=>
  sSt 2 t5 t23 m_1 fun m_2=>
  (x1pb call x6p [(I 0)] m_2).bind fun p26=>
  (x1pb call x32 [p26.1] p26.2).bind fun p27=>
  (sExt p27.1 0).bind fun t28=>
  (sExt p27.1 1).bind fun t29=>
  (sExt p27.1 2).bind fun t30=>
  (sExt p27.1 3).bind fun t31=>
  x1po xp (u,fc+27,7) p27.2 fun t7 m_3=>
  sSt 3 t7 t28 m_3 fun m_4=>
  (x1pb call x6p [(I 1)] m_4).bind fun p33=>
  (x1pb call x92 [p33.1] p33.2).bind fun p34=>
  (sExt p34.1 0).bind fun t35=>
  (sExt p34.1 1).bind fun t36=>
  (sEq t19 (I 0)).bind fun t38=>
  (bif sW t38 true then some (t18,p34.2) else some (U,p34.2)).bind fun p40=>
  (bif sW t38 true then (sEq p40.1 (I 2)).bind fun v=>some (v,p40.2) else some (U,p40.2)).bind fun p41=>
  (x1ph t38 p41.1 (B false)).bind fun t42=>
  (bif sW t42 true then some (t16,p41.2) else some (U,p41.2)).bind fun p44=>
  (bif sW t42 true then x1pt x1q0 [(0,1,(I 0)),(1,1,(I (-1))),(2,1,(I (-1)))] 3 1 (u,fc+47,45) p44.2 fun v m=>some (v,m) else some (U,p44.2)).bind fun p45=>
  (bif sW t42 true then (x1pb call x2c [p44.1,p45.1] p45.2).bind fun p=>some (p.1,p.2) else some (U,p45.2)).bind fun p46=>
  (x1ph t42 p46.1 (B false)).bind fun t47=>
  (bif sW t47 true then some (t17,p46.2) else some (U,p46.2)).bind fun p49=>
  (bif sW t47 true then x1pt x1q0 [(0,1,(I 2)),(1,1,(I 2)),(2,1,(I 2))] 3 1 (u,fc+52,50) p49.2 fun v m=>some (v,m) else some (U,p49.2)).bind fun p50=>
  (bif sW t47 true then (x1pb call x2c [p49.1,p50.1] p50.2).bind fun p=>some (p.1,p.2) else some (U,p50.2)).bind fun p51=>
  (x1ph t47 p51.1 (B false)).bind fun t52=>
  (bif sW t52 true then some (t24,p51.2) else some (U,p51.2)).bind fun p54=>
  (bif sW t52 true then (sEq p54.1 (I 0)).bind fun v=>some (v,p54.2) else some (U,p54.2)).bind fun p55=>
  (x1ph t52 p55.1 (B false)).bind fun t56=>
  (bif sW t56 true then (sLd true 2 t5 p55.2).bind fun v=>some (v,p55.2) else some (U,p55.2)).bind fun p58=>
  (bif sW t56 true then (x1pl x66 [(0,1,(I (-1))),(1,1,(I (-1)))]).bind fun v=>some (v,p58.2) else some (U,p58.2)).bind fun p59=>
  (bif sW t56 true then (sBin Try.prog .eql xgu (.tmp 58) (.tmp 59) p58.1 p59.1).bind fun v=>some (v,p59.2) else some (U,p59.2)).bind fun p60=>
  (x1ph t56 p60.1 (B false)).bind fun t61=>
  (bif sW t61 true then some (t31,p60.2) else some (U,p60.2)).bind fun p63=>
  (bif sW t61 true then (sEq p63.1 (I 0)).bind fun v=>some (v,p63.2) else some (U,p63.2)).bind fun p64=>
  (x1ph t61 p64.1 (B false)).bind fun t65=>
  (bif sW t65 true then some (t30,p64.2) else some (U,p64.2)).bind fun p67=>
  (bif sW t65 true then (sEq p67.1 (I 2)).bind fun v=>some (v,p67.2) else some (U,p67.2)).bind fun p68=>
  (x1ph t65 p68.1 (B false)).bind fun t69=>
  (bif sW t69 true then some (t36,p68.2) else some (U,p68.2)).bind fun p71=>
  (bif sW t69 true then (sEq p71.1 (I 0)).bind fun v=>some (v,p71.2) else some (U,p71.2)).bind fun p72=>
  (x1ph t69 p72.1 (B false)).bind fun t73=>
  (bif sW t73 true then some (t35,p72.2) else some (U,p72.2)).bind fun p75=>
  (bif sW t73 true then (sLen Try.prog xza p75.1).bind fun v=>some (v,p75.2) else some (U,p75.2)).bind fun p76=>
  (bif sW t73 true then (sEq p76.1 (I 4)).bind fun v=>some (v,p76.2) else some (U,p76.2)).bind fun p77=>
  (x1ph t73 p77.1 (B false)).bind fun t78=>
  some (t78,p77.2)
noncomputable def x67 (call:x1p9) (hs:FHs) (u:Nat) (m:Mem) (fc:Nat):O2:=
 some ((B true),m)
noncomputable def xm5 (call:x1p9) (hs:FHs) (u:Nat) (rec0:AV→AV→Mem→Nat→O2) (t1 t3:AV) (m:Mem) (fc:Nat):O2:=
 (sFA 1 t1).bind fun t33=>
  (sLd false 1 t33 m).bind fun t34=>
  (sLen Try.prog x7 t34).bind fun t35=>
  (sLt t3 t35).bind fun t36=>
  x1pc t36
  ((sFA 1 t1).bind fun t39=>
  (sLd false 1 t39 m).bind fun t40=>
  (sIx 4 t40 t3).bind fun t42=>
  (sFA 3 t42).bind fun t43=>
  (sLd false 1 t43 m).bind fun t44=>
  (sGt t44 (I 20)).bind fun t45=>
  (bif sW t45 false then (sFA 1 t1).bind fun v=>some (v,m) else some (U,m)).bind fun p47=>
  (bif sW t45 false then (sLd false 1 p47.1 p47.2).bind fun v=>some (v,p47.2) else some (U,p47.2)).bind fun p48=>
  (bif sW t45 false then some (t3,p48.2) else some (U,p48.2)).bind fun p49=>
  (bif sW t45 false then (sIx 4 p48.1 p49.1).bind fun v=>some (v,p49.2) else some (U,p49.2)).bind fun p50=>
  (bif sW t45 false then (sFA 2 p50.1).bind fun v=>some (v,p50.2) else some (U,p50.2)).bind fun p51=>
  (bif sW t45 false then (sLd false 1 p51.1 p51.2).bind fun v=>some (v,p51.2) else some (U,p51.2)).bind fun p52=>
  (bif sW t45 false then (x1pb call x2d [p52.1] p52.2).bind fun p=>some (p.1,p.2) else some (U,p52.2)).bind fun p53=>
  (bif sW t45 false then (sGt p53.1 (I 5)).bind fun v=>some (v,p53.2) else some (U,p53.2)).bind fun p54=>
  (x1ph t45 (B true) p54.1).bind fun t55=>
  x1pc t55
  (some ((B false),p54.2))
  ((sAdd t3 (I 1)).bind fun t38=>
  rec0 t1 t38 p54.2 (fc+25)))
  (x67 call hs u m (fc+5))
noncomputable def x6v (call:x1p9) (hs:FHs) (u:Nat):Nat→AV→AV→Mem→Nat→O2
 | 0=>fun _ _ _ _=>none
 | n+1=>fun t1 t3 m fc=>xm5 call hs u (x6v call hs u n) t1 t3 m fc
noncomputable def xgv (call:x1p9) (hs:FHs) (u:Nat) (t1:AV) (m:Mem) (fc:Nat):O2:=
 x6v call hs u NN t1 (I 0) m (fc+1)
noncomputable def xm6 (call:x1p9) (hs:FHs) (u:Nat) (t0:AV) (m:Mem) (fc:Nat):O2:=
 sBox t0 (u,fc,1) m fun t1 m_1=>
  (sLd true 2 t1 m_1).bind fun t4=>
  (x1pb call x2y [t4] m_1).bind fun p5=>
  (sNe p5.1 (I 0)).bind fun t6=>
  x1pc t6
  ((sFA 1 t1).bind fun t7=>
  (sLd false 1 t7 p5.2).bind fun t8=>
  (sLen Try.prog x7 t8).bind fun t9=>
  (sLe t9 (I 16)).bind fun t10=>
  (bif sW t10 false then (sFA 1 t1).bind fun v=>some (v,p5.2) else some (U,p5.2)).bind fun p12=>
  (bif sW t10 false then (sLd false 1 p12.1 p12.2).bind fun v=>some (v,p12.2) else some (U,p12.2)).bind fun p13=>
  (bif sW t10 false then (sLen Try.prog x7 p13.1).bind fun v=>some (v,p13.2) else some (U,p13.2)).bind fun p14=>
  (bif sW t10 false then (sGt p14.1 (I 600)).bind fun v=>some (v,p14.2) else some (U,p14.2)).bind fun p15=>
  (bif sW t10 false then some (p15.1,p15.2) else some (U,p15.2)).bind fun p16=>
  (bif sW p16.1 true then (sFA 1 t1).bind fun v=>some (v,p16.2) else some (U,p16.2)).bind fun p17=>
  (bif sW p16.1 true then (sLd false 1 p17.1 p17.2).bind fun v=>some (v,p17.2) else some (U,p17.2)).bind fun p18=>
  (bif sW p16.1 true then (sLen Try.prog x7 p18.1).bind fun v=>some (v,p18.2) else some (U,p18.2)).bind fun p19=>
  (bif sW p16.1 true then (sLe p19.1 (I 602)).bind fun v=>some (v,p19.2) else some (U,p19.2)).bind fun p20=>
  (bif sW t10 false then (x1ph p16.1 p20.1 (B false)).bind fun v=>some (v,p20.2) else some (U,p20.2)).bind fun p21=>
  (x1ph t10 (B true) p21.1).bind fun t22=>
  some (t22,p21.2))
  ((sFA 0 t1).bind fun t23=>
  (sLd false 1 t23 p5.2).bind fun t24=>
  (sGt t24 (I 10)).bind fun t25=>
  (bif sW t25 false then (sFA 1 t1).bind fun v=>some (v,p5.2) else some (U,p5.2)).bind fun p27=>
  (bif sW t25 false then (sLd false 1 p27.1 p27.2).bind fun v=>some (v,p27.2) else some (U,p27.2)).bind fun p28=>
  (bif sW t25 false then (sLen Try.prog x7 p28.1).bind fun v=>some (v,p28.2) else some (U,p28.2)).bind fun p29=>
  (bif sW t25 false then (sGt p29.1 (I 16)).bind fun v=>some (v,p29.2) else some (U,p29.2)).bind fun p30=>
  (x1ph t25 (B true) p30.1).bind fun t31=>
  x1pc t31
  (some ((B false),p30.2))
  (xgv call hs u t1 p30.2 (fc+14)))
noncomputable def xm7 (call:x1p9) (hs:FHs) (u:Nat) (t0:AV) (m:Mem) (fc:Nat):O2:=
 sBox t0 (u,fc,1) m fun t1 m_1=>
  (sLd true 2 t1 m_1).bind fun t10=>
  (x1pb call x4g [t10] m_1).bind fun p11=>
  (sExt p11.1 0).bind fun t12=>
  (sExt p11.1 1).bind fun t13=>
  x1po x16 (u,fc+10,6) p11.2 fun t6 m_2=>
  sSt 2 t6 t12 m_2 fun m_3=>
  (sNe t13 (I 0)).bind fun t15=>
  x1pc t15
  (some (AV.tup [nilS,nilS,(I 0),t13],m_3))
  ((sLd true 2 t6 m_3).bind fun t17=>
  (x1s9 call x1t [t17] m_3).bind fun p18=>
  (sNil p18.1).bind fun t20=>
  (sFA 3 t20).bind fun t21=>
  (sLd false 1 t21 p18.2).bind fun t22=>
  (sNil p18.1).bind fun t24=>
  (sFA 2 t24).bind fun t25=>
  (sLd false 1 t25 p18.2).bind fun t26=>
  (sLd true 2 t6 p18.2).bind fun t27=>
  (sNil p18.1).bind fun t29=>
  (sFA 3 t29).bind fun t30=>
  (sLd false 1 t30 p18.2).bind fun t31=>
  (x1ul call x2e [t27,t31] p18.2).bind fun p32=>
  bif (Nat.ble 1 (mkM 3 [t27,t31])&&true)&&(cAp none (tR t21) (mkM 3 [t27,t31])&&(cAp none (tR t25) (mkM 3 [t27,t31])&&true)) then
  some (AV.tup [t22,t26,p32.1,(I 0)],p32.2) else none)
noncomputable def xm8 (call:x1p9) (hs:FHs) (u:Nat) (t0:AV) (m:Mem) (fc:Nat):O2:=
 sBox t0 (u,fc,1) m fun t1 m_1=>
  x1po xo (u,fc+1,2) m_1 fun t2 m_2=>
  (sFA 0 t1).bind fun t3=>
  (sLd false 1 t3 m_2).bind fun t4=>
  x1pt x6 [] 0 4 (u,fc+4,5) m_2 fun t5 m_3=>
  (sFA 1 t1).bind fun t6=>
  (sLd false 1 t6 m_3).bind fun t7=>
  sApp 4 32 (u,fc+7,8) (elems m_3.get 4 t7) t5 m_3 fun t8 m_4=>
  (x1pl xo [(0,1,t4),(1,1,t8)]).bind fun t9=>
  sSt 2 t2 t9 m_4 fun m_5=>
  bif (x1pd (tR t3) (some [],some [(u,fc+4,5)])&&(x1pd (some [],some [(u,fc+4,5)]) (tR t6)&&(x1pd (tR t3) (tX t7,tA (u,fc+7,8) t5)&&true))) then
  (sLdP true 2 t2 m_5).bind fun r0=>
  some (r0,m_5) else none
noncomputable def xm9 (call:x1p9) (hs:FHs) (u:Nat) (t0:AV) (m:Mem) (fc:Nat):O2:=
 sBox t0 (u,fc,1) m fun t1 m_1=>
  (sLd true 2 t1 m_1).bind fun t6=>
  (x1pb call x95 [t6] m_1).bind fun p7=>
  (sExt p7.1 0).bind fun t8=>
  (sExt p7.1 1).bind fun t9=>
  some (t9,p7.2)
noncomputable def x68 (call:x1p9) (hs:FHs) (u:Nat) (t1 t2:AV) (m:Mem) (fc:Nat):O2:=
 (sLd true 2 t2 m).bind fun t24=>
  (x1pb call x4f [t24,t1] m).bind fun p26=>
  some (AV.tup [p26.1,(I 0)],p26.2)
noncomputable def xma (call:x1p9) (hs:FHs) (u:Nat) (rec0:AV→AV→AV→Mem→Nat→O2) (t1 t2 t6:AV) (m:Mem) (fc:Nat):O2:=
 (sLen Try.prog x5 t1).bind fun t14=>
  (sLt t6 t14).bind fun t15=>
  x1pc t15
  ((sIx 1 t1 t6).bind fun t20=>
  (sLd false 1 t20 m).bind fun t21=>
  (x1pb call xb [t21,(I (-1000000)),(I 1000000)] m).bind fun p22=>
  (sNot p22.1).bind fun t23=>
  x1pc t23
  (some (AV.tup [(I 0),(I 2)],p22.2))
  ((sAdd t6 (I 1)).bind fun t17=>
  rec0 t1 t2 t17 p22.2 (fc+13)))
  (x68 call hs u t1 t2 m (fc+4))
noncomputable def x6w (call:x1p9) (hs:FHs) (u:Nat):Nat→AV→AV→AV→Mem→Nat→O2
 | 0=>fun _ _ _ _ _=>none
 | n+1=>fun t1 t2 t6 m fc=>xma call hs u (x6w call hs u n) t1 t2 t6 m fc
noncomputable def xgw (call:x1p9) (hs:FHs) (u:Nat) (t1 t2:AV) (m:Mem) (fc:Nat):O2:=
 x6w call hs u NN t1 t2 (I 0) m (fc+1)
noncomputable def xmb (call:x1p9) (hs:FHs) (u:Nat) (t0 t1:AV) (m:Mem) (fc:Nat):O2:=
 sBox t0 (u,fc,2) m fun t2 m_1=>
  (sLen Try.prog x5 t1).bind fun t8=>
  (sFA 0 t2).bind fun t9=>
  (sLd false 1 t9 m_1).bind fun t10=>
  (sNe t8 t10).bind fun t11=>
  x1pc t11
  (some (AV.tup [(I 0),(I 10)],m_1))
  (xgw call hs u t1 t2 m_1 (fc+8))
noncomputable def x50 (call:x1p9) (hs:FHs) (u:Nat) (t7:AV) (m:Mem) (fc:Nat):O2:=
 some (AV.tup [t7,(I 0)],m)
noncomputable def xbt (call:x1p9) (hs:FHs) (u:Nat) (rec0:AV→AV→AV→AV→Mem→Nat→O2) (t2 t6 t7 t10:AV) (m:Mem) (fc:Nat):O2:=
 (sFA 0 t2).bind fun t80=>
  (sLd false 1 t80 m).bind fun t81=>
  (sLt t10 t81).bind fun t82=>
  x1pc t82
  ((sIx 1 t6 t10).bind fun t87=>
  (sLd false 1 t87 m).bind fun t88=>
  (sNe t88 (I 0)).bind fun t89=>
  x1pc t89
  (some (AV.tup [(I 0),(I 25)],m))
  ((sAdd t10 (I 1)).bind fun t84=>
  rec0 t2 t6 t7 t84 m (fc+12)))
  (x50 call hs u t7 m (fc+4))
noncomputable def x37 (call:x1p9) (hs:FHs) (u:Nat):Nat→AV→AV→AV→AV→Mem→Nat→O2
 | 0=>fun _ _ _ _ _ _=>none
 | n+1=>fun t2 t6 t7 t10 m fc=>xbt call hs u (x37 call hs u n) t2 t6 t7 t10 m fc
noncomputable def x38 (call:x1p9) (hs:FHs) (u:Nat) (t2 t6 t7:AV) (m:Mem) (fc:Nat):O2:=
 x37 call hs u NN t2 t6 t7 (I 0) m (fc+1)
noncomputable def xbu (call:x1p9) (hs:FHs) (u:Nat) (rec1:AV→AV→AV→AV→AV→Mem→Nat→O2) (t1 t2 t6 t7 t8:AV) (m:Mem) (fc:Nat):O2:=
 (sLen Try.prog x5 t1).bind fun t22=>
  (sLt t8 t22).bind fun t23=>
  x1pc t23
  ((sFA 1 t2).bind fun t26=>
  (sLd false 1 t26 m).bind fun t27=>
  (sIx 4 t27 t8).bind fun t29=>
  (sLd true 4 t29 m).bind fun t30=>
  x1po x6 (u,fc+9,9) m fun t9 m_1=>
  sSt 4 t9 t30 m_1 fun m_2=>
  (sIx 1 t1 t8).bind fun t33=>
  (sLd false 1 t33 m_2).bind fun t34=>
  (sFA 3 t9).bind fun t35=>
  (sLd false 1 t35 m_2).bind fun t36=>
  (sNeg t36).bind fun t37=>
  (sFA 3 t9).bind fun t38=>
  (sLd false 1 t38 m_2).bind fun t39=>
  (x1pb call xb [t34,t37,t39] m_2).bind fun p40=>
  (sNot p40.1).bind fun t41=>
  x1pc t41
  (some (AV.tup [(I 0),(I 2)],p40.2))
  ((sFA 1 t9).bind fun t43=>
  (sLd false 1 t43 p40.2).bind fun t44=>
  (sFA 0 t9).bind fun t46=>
  (sLd false 1 t46 p40.2).bind fun t47=>
  (sFA 1 t9).bind fun t49=>
  (sLd false 1 t49 p40.2).bind fun t50=>
  (sIx 1 t6 t50).bind fun t51=>
  (sLd false 1 t51 p40.2).bind fun t52=>
  (sIx 1 t1 t8).bind fun t55=>
  (sLd false 1 t55 p40.2).bind fun t56=>
  (sAdd t52 t56).bind fun t57=>
  (sFA 0 t9).bind fun t59=>
  (sLd false 1 t59 p40.2).bind fun t60=>
  (sIx 1 t6 t60).bind fun t61=>
  (sLd false 1 t61 p40.2).bind fun t62=>
  (sIx 1 t1 t8).bind fun t65=>
  (sLd false 1 t65 p40.2).bind fun t66=>
  (sSub t62 t66).bind fun t67=>
  (sIx 1 t1 t8).bind fun t71=>
  (sLd false 1 t71 p40.2).bind fun t72=>
  (sFA 2 t9).bind fun t73=>
  (sLd false 1 t73 p40.2).bind fun t74=>
  (sMul t72 t74).bind fun t75=>
  (sAdd t7 t75).bind fun t76=>
  (sIx 1 t6 t44).bind fun t77=>
  sSt 1 t77 t57 p40.2 fun m_3=>
  (sIx 1 t6 t47).bind fun t78=>
  sSt 1 t78 t67 m_3 fun m_4=>
  bif (x1pd (tR t46) (tS t77)&&(x1pd (tR t73) (tS t77)&&(x1pd (tR t73) (tS t78)&&true))) then
  (sAdd t8 (I 1)).bind fun t25=>
  rec1 t1 t2 t6 t76 t25 m_4 (fc+65) else none))
  (x38 call hs u t2 t6 t7 m (fc+4))
noncomputable def x39 (call:x1p9) (hs:FHs) (u:Nat):Nat→AV→AV→AV→AV→AV→Mem→Nat→O2
 | 0=>fun _ _ _ _ _ _ _=>none
 | n+1=>fun t1 t2 t6 t7 t8 m fc=>xbu call hs u (x39 call hs u n) t1 t2 t6 t7 t8 m fc
noncomputable def xbv (call:x1p9) (hs:FHs) (u:Nat) (t1 t2 t6 t7:AV) (m:Mem) (fc:Nat):O2:=
 x39 call hs u NN t1 t2 t6 t7 (I 0) m (fc+1)
noncomputable def xgx (call:x1p9) (hs:FHs) (u:Nat) (t0 t1:AV) (m:Mem) (fc:Nat):O2:=
 sBox t0 (u,fc,2) m fun t2 m_5=>
  (sLen Try.prog x5 t1).bind fun t12=>
  (sFA 1 t2).bind fun t13=>
  (sLd false 1 t13 m_5).bind fun t14=>
  (sLen Try.prog x7 t14).bind fun t15=>
  (sNe t12 t15).bind fun t16=>
  x1pc t16
  (some (AV.tup [(I 0),(I 10)],m_5))
  ((sFA 0 t2).bind fun t17=>
  (sLd false 1 t17 m_5).bind fun t18=>
  x1qd x1q0 1 8 t18 t18 (u,fc+11,19) m_5 fun t19 m_6=>
  xbv call hs u t1 t2 t19 (I 0) m_6 (fc+14))
noncomputable def xgy (call:x1p9) (hs:FHs) (u:Nat) (t0:AV) (m:Mem) (fc:Nat):O2:=
 sBox t0 (u,fc,1) m fun t1 m_1=>
  (sLd true 2 t1 m_1).bind fun t3=>
  (sLd true 2 t1 m_1).bind fun t4=>
  (x1pb call x4c [t4] m_1).bind fun p5=>
  (x1pb call x5w [t3,p5.1] p5.2).bind fun p6=>
  bif (cAp none (tR t1) (mkM 0 [t4])&&true) then
  some (p6.1,p6.2) else none
noncomputable def x9 (call:x1p9) (hs:FHs) (u:Nat) (t3:AV) (m:Mem) (fc:Nat):O2:=
 (x1pb call x4h [t3] m).bind fun p81=>
  some (p81.1,p81.2)
noncomputable def xk (call:x1p9) (hs:FHs) (u:Nat) (rec0:AV→AV→AV→Mem→Nat→O2) (t1 t3 t5:AV) (m:Mem) (fc:Nat):O2:=
 (sAdd t5 (I 1)).bind fun t28=>
  rec0 t1 t3 t28 m (fc+3)
noncomputable def x17 (call:x1p9) (hs:FHs) (u:Nat) (rec0:AV→AV→AV→Mem→Nat→O2) (t1 t3 t5 t6:AV) (m:Mem) (fc:Nat):O2:=
 (sNot t6).bind fun t79=>
  x1pc t79
  (x9 call hs u t3 m (fc+2))
  (xk call hs u rec0 t1 t3 t5 m (fc+2))
noncomputable def x69 (call:x1p9) (hs:FHs) (u:Nat) (rec0:AV→AV→AV→Mem→Nat→O2) (rec1:AV→AV→AV→AV→AV→Mem→Nat→O2) (t1 t3 t5 t6 t7:AV) (m:Mem) (fc:Nat):O2:=
 (sAdd t7 (I 1)).bind fun t35=>
  rec1 t1 t3 t5 t6 t35 m (fc+3)
noncomputable def x6x (call:x1p9) (hs:FHs) (u:Nat) (rec0:AV→AV→AV→Mem→Nat→O2) (rec1:AV→AV→AV→AV→AV→Mem→Nat→O2) (t1 t3 t5 t6 t7:AV) (m:Mem) (fc:Nat):O2:=
 (sFA 1 t1).bind fun t36=>
  (sLd false 1 t36 m).bind fun t37=>
  (sIx 4 t37 t7).bind fun t39=>
  (sLd true 4 t39 m).bind fun t40=>
  x1po x6 (u,fc+5,8) m fun t8 m_1=>
  sSt 4 t8 t40 m_1 fun m_2=>
  (sFA 0 t8).bind fun t42=>
  (sLd false 1 t42 m_2).bind fun t43=>
  (sIx 1 t3 t43).bind fun t44=>
  (sLd false 1 t44 m_2).bind fun t45=>
  (sFA 1 t8).bind fun t47=>
  (sLd false 1 t47 m_2).bind fun t48=>
  (sIx 1 t3 t48).bind fun t49=>
  (sLd false 1 t49 m_2).bind fun t50=>
  (sMin t45 t50).bind fun t51=>
  (sFA 3 t8).bind fun t52=>
  (sLd false 1 t52 m_2).bind fun t53=>
  (sGt t53 (I 0)).bind fun t54=>
  (bif sW t54 true then some (t3,m_2) else some (U,m_2)).bind fun p56=>
  (bif sW t54 true then (sFA 0 t8).bind fun v=>some (v,p56.2) else some (U,p56.2)).bind fun p57=>
  (bif sW t54 true then (sLd false 1 p57.1 p57.2).bind fun v=>some (v,p57.2) else some (U,p57.2)).bind fun p58=>
  (bif sW t54 true then (sIx 1 p56.1 p58.1).bind fun v=>some (v,p58.2) else some (U,p58.2)).bind fun p59=>
  (bif sW t54 true then (sLd false 1 p59.1 p59.2).bind fun v=>some (v,p59.2) else some (U,p59.2)).bind fun p60=>
  (bif sW t54 true then some (t3,p60.2) else some (U,p60.2)).bind fun p61=>
  (bif sW t54 true then (sFA 1 t8).bind fun v=>some (v,p61.2) else some (U,p61.2)).bind fun p62=>
  (bif sW t54 true then (sLd false 1 p62.1 p62.2).bind fun v=>some (v,p62.2) else some (U,p62.2)).bind fun p63=>
  (bif sW t54 true then (sIx 1 p61.1 p63.1).bind fun v=>some (v,p63.2) else some (U,p63.2)).bind fun p64=>
  (bif sW t54 true then (sLd false 1 p64.1 p64.2).bind fun v=>some (v,p64.2) else some (U,p64.2)).bind fun p65=>
  (bif sW t54 true then (sNe p60.1 p65.1).bind fun v=>some (v,p65.2) else some (U,p65.2)).bind fun p66=>
  (x1ph t54 p66.1 (B false)).bind fun t67=>
  x1pc t67
  ((sFA 0 t8).bind fun t69=>
  (sLd false 1 t69 p66.2).bind fun t70=>
  (sFA 1 t8).bind fun t72=>
  (sLd false 1 t72 p66.2).bind fun t73=>
  (sIx 1 t3 t70).bind fun t76=>
  sSt 1 t76 t51 p66.2 fun m_3=>
  (sIx 1 t3 t73).bind fun t77=>
  sSt 1 t77 t51 m_3 fun m_4=>
  bif (x1pd (tR t72) (tS t76)&&true) then
  x69 call hs u rec0 rec1 t1 t3 t5 (B true) t7 m_4 (fc+48) else none)
  (x69 call hs u rec0 rec1 t1 t3 t5 t6 t7 p66.2 (fc+35))
noncomputable def x6y (call:x1p9) (hs:FHs) (u:Nat) (rec0:AV→AV→AV→Mem→Nat→O2) (rec1:AV→AV→AV→AV→AV→Mem→Nat→O2) (t1 t3 t5 t6 t7:AV) (m:Mem) (fc:Nat):O2:=
 (sFA 1 t1).bind fun t30=>
  (sLd false 1 t30 m).bind fun t31=>
  (sLen Try.prog x7 t31).bind fun t32=>
  (sLt t7 t32).bind fun t33=>
  x1pc t33
  (x6x call hs u rec0 rec1 t1 t3 t5 t6 t7 m (fc+5))
  (x17 call hs u rec0 t1 t3 t5 t6 m (fc+5))
noncomputable def x1v (call:x1p9) (hs:FHs) (u:Nat) (rec0:AV→AV→AV→Mem→Nat→O2):Nat→AV→AV→AV→AV→AV→Mem→Nat→O2
 | 0=>fun _ _ _ _ _ _ _=>none
 | n+1=>fun t1 t3 t5 t6 t7 m fc=>x6y call hs u rec0 (x1v call hs u rec0 n) t1 t3 t5 t6 t7 m fc
noncomputable def xbw (call:x1p9) (hs:FHs) (u:Nat) (rec0:AV→AV→AV→Mem→Nat→O2) (t1 t3 t5 t6:AV) (m:Mem) (fc:Nat):O2:=
 x1v call hs u rec0 NN t1 t3 t5 t6 (I 0) m (fc+1)
noncomputable def xa7 (call:x1p9) (hs:FHs) (u:Nat) (rec0:AV→AV→AV→Mem→Nat→O2) (t1 t3 t5:AV) (m:Mem) (fc:Nat):O2:=
 xbw call hs u rec0 t1 t3 t5 (B false) m (fc+1)
noncomputable def xbx (call:x1p9) (hs:FHs) (u:Nat) (rec0:AV→AV→AV→Mem→Nat→O2) (t1 t3 t5:AV) (m:Mem) (fc:Nat):O2:=
 (sFA 0 t1).bind fun t24=>
  (sLd false 1 t24 m).bind fun t25=>
  (sLt t5 t25).bind fun t26=>
  x1pc t26
  (xa7 call hs u rec0 t1 t3 t5 m (fc+4))
  (x9 call hs u t3 m (fc+4))
noncomputable def x1f (call:x1p9) (hs:FHs) (u:Nat):Nat→AV→AV→AV→Mem→Nat→O2
 | 0=>fun _ _ _ _ _=>none
 | n+1=>fun t1 t3 t5 m fc=>xbx call hs u (x1f call hs u n) t1 t3 t5 m fc
noncomputable def x2h (call:x1p9) (hs:FHs) (u:Nat) (t1 t3:AV) (m:Mem) (fc:Nat):O2:=
 x1f call hs u NN t1 t3 (I 0) m (fc+1)
noncomputable def xby (call:x1p9) (hs:FHs) (u:Nat) (rec2:AV→AV→AV→Mem→Nat→O2) (t1 t3 t4:AV) (m:Mem) (fc:Nat):O2:=
 (sFA 0 t1).bind fun t14=>
  (sLd false 1 t14 m).bind fun t15=>
  (sLt t4 t15).bind fun t16=>
  x1pc t16
  ((sIx 1 t3 t4).bind fun t22=>
  sSt 1 t22 t4 m fun m_5=>
  (sAdd t4 (I 1)).bind fun t18=>
  rec2 t1 t3 t18 m_5 (fc+12))
  (x2h call hs u t1 t3 m (fc+4))
noncomputable def x3a (call:x1p9) (hs:FHs) (u:Nat):Nat→AV→AV→AV→Mem→Nat→O2
 | 0=>fun _ _ _ _ _=>none
 | n+1=>fun t1 t3 t4 m fc=>xby call hs u (x3a call hs u n) t1 t3 t4 m fc
noncomputable def xbz (call:x1p9) (hs:FHs) (u:Nat) (t1 t3:AV) (m:Mem) (fc:Nat):O2:=
 x3a call hs u NN t1 t3 (I 0) m (fc+1)
noncomputable def xgz (call:x1p9) (hs:FHs) (u:Nat) (t0:AV) (m:Mem) (fc:Nat):O2:=
 sBox t0 (u,fc,1) m fun t1 m_6=>
  (sFA 0 t1).bind fun t10=>
  (sLd false 1 t10 m_6).bind fun t11=>
  x1qd x1q0 1 8 t11 t11 (u,fc+4,12) m_6 fun t12 m_7=>
  xbz call hs u t1 t12 m_7 (fc+6)
noncomputable def x51 (call:x1p9) (hs:FHs) (u:Nat) (m:Mem) (fc:Nat):O2:=
 some ((B false),m)
noncomputable def xc0 (call:x1p9) (hs:FHs) (u:Nat) (rec0:AV→AV→AV→Mem→Nat→O2) (t0 t1 t5:AV) (m:Mem) (fc:Nat):O2:=
 (sLen Try.prog x5 t0).bind fun t8=>
  (sLt t5 t8).bind fun t9=>
  x1pc t9
  ((sIx 1 t0 t5).bind fun t14=>
  (sLd false 1 t14 m).bind fun t15=>
  (sEq t15 t1).bind fun t17=>
  x1pc t17
  (some ((B true),m))
  ((sAdd t5 (I 1)).bind fun t11=>
  rec0 t0 t1 t11 m (fc+13)))
  (x51 call hs u m (fc+4))
noncomputable def x3b (call:x1p9) (hs:FHs) (u:Nat):Nat→AV→AV→AV→Mem→Nat→O2
 | 0=>fun _ _ _ _ _=>none
 | n+1=>fun t0 t1 t5 m fc=>xc0 call hs u (x3b call hs u n) t0 t1 t5 m fc
noncomputable def xh0 (call:x1p9) (hs:FHs) (u:Nat) (t0 t1:AV) (m:Mem) (fc:Nat):O2:=
 x3b call hs u NN t0 t1 (I 0) m (fc+1)
noncomputable def xmc (call:x1p9) (hs:FHs) (u:Nat) (t0 t1:AV) (m:Mem) (fc:Nat):O2:=
 xh0 call hs u t0 t1 m (fc+1)
noncomputable def x52 (call:x1p9) (hs:FHs) (u:Nat) (m:Mem) (fc:Nat):O2:=
 some ((B true),m)
noncomputable def xc1 (call:x1p9) (hs:FHs) (u:Nat) (rec0:AV→AV→Mem→Nat→O2) (t1 t4:AV) (m:Mem) (fc:Nat):O2:=
 (sFA 4 t1).bind fun t44=>
  (sLd false 1 t44 m).bind fun t45=>
  (sLen Try.prog x5 t45).bind fun t46=>
  (sLt t4 t46).bind fun t47=>
  x1pc t47
  ((sFA 4 t1).bind fun t50=>
  (sLd false 1 t50 m).bind fun t51=>
  (sIx 1 t51 t4).bind fun t53=>
  (sLd false 1 t53 m).bind fun t54=>
  (sGt t54 (I 20)).bind fun t55=>
  x1pc t55
  (some ((B false),m))
  ((sAdd t4 (I 1)).bind fun t49=>
  rec0 t1 t49 m (fc+14)))
  (x52 call hs u m (fc+5))
noncomputable def x3c (call:x1p9) (hs:FHs) (u:Nat):Nat→AV→AV→Mem→Nat→O2
 | 0=>fun _ _ _ _=>none
 | n+1=>fun t1 t4 m fc=>xc1 call hs u (x3c call hs u n) t1 t4 m fc
noncomputable def x3d (call:x1p9) (hs:FHs) (u:Nat) (t1:AV) (m:Mem) (fc:Nat):O2:=
 x3c call hs u NN t1 (I 0) m (fc+1)
noncomputable def xc2 (call:x1p9) (hs:FHs) (u:Nat) (rec1:AV→AV→Mem→Nat→O2) (t1 t3:AV) (m:Mem) (fc:Nat):O2:=
 (sFA 3 t1).bind fun t31=>
  (sLd false 1 t31 m).bind fun t32=>
  (sLen Try.prog x5 t32).bind fun t33=>
  (sLt t3 t33).bind fun t34=>
  x1pc t34
  ((sFA 3 t1).bind fun t37=>
  (sLd false 1 t37 m).bind fun t38=>
  (sIx 1 t38 t3).bind fun t40=>
  (sLd false 1 t40 m).bind fun t41=>
  (sGt t41 (I 20)).bind fun t42=>
  x1pc t42
  (some ((B false),m))
  ((sAdd t3 (I 1)).bind fun t36=>
  rec1 t1 t36 m (fc+14)))
  (x3d call hs u t1 m (fc+5))
noncomputable def x3e (call:x1p9) (hs:FHs) (u:Nat):Nat→AV→AV→Mem→Nat→O2
 | 0=>fun _ _ _ _=>none
 | n+1=>fun t1 t3 m fc=>xc2 call hs u (x3e call hs u n) t1 t3 m fc
noncomputable def xc3 (call:x1p9) (hs:FHs) (u:Nat) (t1:AV) (m:Mem) (fc:Nat):O2:=
 x3e call hs u NN t1 (I 0) m (fc+1)
noncomputable def xh1 (call:x1p9) (hs:FHs) (u:Nat) (t0:AV) (m:Mem) (fc:Nat):O2:=
 sBox t0 (u,fc,1) m fun t1 m_1=>
  (sFA 0 t1).bind fun t5=>
  (sFA 2 t5).bind fun t6=>
  (sLd false 1 t6 m_1).bind fun t7=>
  (sLen Try.prog x5 t7).bind fun t8=>
  (sGt t8 (I 164)).bind fun t9=>
  (bif sW t9 false then (sFA 3 t1).bind fun v=>some (v,m_1) else some (U,m_1)).bind fun p11=>
  (bif sW t9 false then (sLd false 1 p11.1 p11.2).bind fun v=>some (v,p11.2) else some (U,p11.2)).bind fun p12=>
  (bif sW t9 false then (sLen Try.prog x5 p12.1).bind fun v=>some (v,p12.2) else some (U,p12.2)).bind fun p13=>
  (bif sW t9 false then (sGt p13.1 (I 300)).bind fun v=>some (v,p13.2) else some (U,p13.2)).bind fun p14=>
  (x1ph t9 (B true) p14.1).bind fun t15=>
  (bif sW t15 false then (sFA 4 t1).bind fun v=>some (v,p14.2) else some (U,p14.2)).bind fun p17=>
  (bif sW t15 false then (sLd false 1 p17.1 p17.2).bind fun v=>some (v,p17.2) else some (U,p17.2)).bind fun p18=>
  (bif sW t15 false then (sLen Try.prog x5 p18.1).bind fun v=>some (v,p18.2) else some (U,p18.2)).bind fun p19=>
  (bif sW t15 false then (sGt p19.1 (I 300)).bind fun v=>some (v,p19.2) else some (U,p19.2)).bind fun p20=>
  (x1ph t15 (B true) p20.1).bind fun t21=>
  x1pc t21
  (some ((B false),p20.2))
  ((sLd true 5 t1 p20.2).bind fun t22=>
  (x1pb call x30 [t22] p20.2).bind fun p23=>
  (sNe p23.1 (I 0)).bind fun t24=>
  x1pc t24
  (some ((B true),p23.2))
  ((sFA 0 t1).bind fun t25=>
  (sFA 2 t25).bind fun t26=>
  (sLd false 1 t26 p23.2).bind fun t27=>
  (sLen Try.prog x5 t27).bind fun t28=>
  (sGt t28 (I 12)).bind fun t29=>
  x1pc t29
  (some ((B false),p23.2))
  (xc3 call hs u t1 p23.2 (fc+27))))
noncomputable def xmd (call:x1p9) (hs:FHs) (u:Nat) (t0:AV) (m:Mem) (fc:Nat):O2:=
 sBox t0 (u,fc,1) m fun t1 m_1=>
  x1po xo (u,fc+1,2) m_1 fun t2 m_2=>
  (sLd true 5 t1 m_2).bind fun t5=>
  (x1pb call x1s [t5] m_2).bind fun p6=>
  (sNe p6.1 (I 0)).bind fun t8=>
  x1pc t8
  ((x1pl xo []).bind fun t9=>
  sSt 2 t2 t9 p6.2 fun m_3=>
  (sLdP true 2 t2 m_3).bind fun r0=>
  some (AV.tup [r0,p6.1],m_3))
  ((sLd true 5 t1 p6.2).bind fun t11=>
  (x1pb call x1e [t11] p6.2).bind fun p12=>
  sSt 2 t2 p12.1 p12.2 fun m_4=>
  (sLdP true 2 t2 m_4).bind fun r0=>
  some (AV.tup [r0,(I 0)],m_4))
noncomputable def xh2 (call:x1p9) (hs:FHs) (u:Nat) (t0:AV) (m:Mem) (fc:Nat):O2:=
 sBox t0 (u,fc,1) m fun t1 m_1=>
  x1po x6z (u,fc+1,2) m_1 fun t2 m_2=>
  (sFA 0 t1).bind fun t3=>
  (sLd true 3 t3 m_2).bind fun t4=>
  (x1pb call x4e [t4] m_2).bind fun p5=>
  (sFA 3 t1).bind fun t6=>
  (sLd false 1 t6 p5.2).bind fun t7=>
  (x1pb call xf [t7] p5.2).bind fun p8=>
  (sFA 4 t1).bind fun t9=>
  (sLd false 1 t9 p8.2).bind fun t10=>
  (x1pb call xf [t10] p8.2).bind fun p11=>
  (x1pl x6z [(0,3,p5.1),(3,1,p8.1),(4,1,p11.1)]).bind fun t12=>
  sSt 5 t2 t12 p11.2 fun m_3=>
  bif (Nat.ble 1 (mkM 0 [t4])&&(Nat.ble 1 (mkM 0 [t7])&&true))&&(cAp (some m_2.next) (tR t6) (mkM 0 [t4])&&(cAp (some m_2.next) (tR t9) (mkM 0 [t4])&&(cAp (some m_2.next) (tR t9) (mkM 0 [t7])&&true))) then
  (sLdP true 5 t2 m_3).bind fun r0=>
  some (r0,m_3) else none
noncomputable def x53 (call:x1p9) (hs:FHs) (u:Nat) (m:Mem) (fc:Nat):O2:=
 some ((I 0),m)
noncomputable def xc4 (call:x1p9) (hs:FHs) (u:Nat) (rec0:AV→AV→Mem→Nat→O2) (t1 t7:AV) (m:Mem) (fc:Nat):O2:=
 (sFA 4 t1).bind fun t70=>
  (sLd false 1 t70 m).bind fun t71=>
  (sLen Try.prog x5 t71).bind fun t72=>
  (sLt t7 t72).bind fun t73=>
  x1pc t73
  ((sFA 4 t1).bind fun t76=>
  (sLd false 1 t76 m).bind fun t77=>
  (sIx 1 t77 t7).bind fun t79=>
  (sLd false 1 t79 m).bind fun t80=>
  (x1pb call xb [t80,(I 0),(I 1000)] m).bind fun p81=>
  (sNot p81.1).bind fun t82=>
  x1pc t82
  (some ((I 2),p81.2))
  ((sAdd t7 (I 1)).bind fun t75=>
  rec0 t1 t75 p81.2 (fc+15)))
  (x53 call hs u m (fc+5))
noncomputable def x3f (call:x1p9) (hs:FHs) (u:Nat):Nat→AV→AV→Mem→Nat→O2
 | 0=>fun _ _ _ _=>none
 | n+1=>fun t1 t7 m fc=>xc4 call hs u (x3f call hs u n) t1 t7 m fc
noncomputable def x3g (call:x1p9) (hs:FHs) (u:Nat) (t1:AV) (m:Mem) (fc:Nat):O2:=
 x3f call hs u NN t1 (I 0) m (fc+1)
noncomputable def xc5 (call:x1p9) (hs:FHs) (u:Nat) (rec1:AV→AV→Mem→Nat→O2) (t1 t6:AV) (m:Mem) (fc:Nat):O2:=
 (sFA 3 t1).bind fun t56=>
  (sLd false 1 t56 m).bind fun t57=>
  (sLen Try.prog x5 t57).bind fun t58=>
  (sLt t6 t58).bind fun t59=>
  x1pc t59
  ((sFA 3 t1).bind fun t62=>
  (sLd false 1 t62 m).bind fun t63=>
  (sIx 1 t63 t6).bind fun t65=>
  (sLd false 1 t65 m).bind fun t66=>
  (x1pb call xb [t66,(I 0),(I 1000)] m).bind fun p67=>
  (sNot p67.1).bind fun t68=>
  x1pc t68
  (some ((I 2),p67.2))
  ((sAdd t6 (I 1)).bind fun t61=>
  rec1 t1 t61 p67.2 (fc+15)))
  (x3g call hs u t1 m (fc+5))
noncomputable def x3h (call:x1p9) (hs:FHs) (u:Nat):Nat→AV→AV→Mem→Nat→O2
 | 0=>fun _ _ _ _=>none
 | n+1=>fun t1 t6 m fc=>xc5 call hs u (x3h call hs u n) t1 t6 m fc
noncomputable def xc6 (call:x1p9) (hs:FHs) (u:Nat) (t1:AV) (m:Mem) (fc:Nat):O2:=
 x3h call hs u NN t1 (I 0) m (fc+1)
noncomputable def xh3 (call:x1p9) (hs:FHs) (u:Nat) (t0:AV) (m:Mem) (fc:Nat):O2:=
 sBox t0 (u,fc,1) m fun t1 m_1=>
  (sFA 0 t1).bind fun t8=>
  (sLd true 3 t8 m_1).bind fun t9=>
  x1po xp (u,fc+4,3) m_1 fun t3 m_2=>
  sSt 3 t3 t9 m_2 fun m_3=>
  (sFA 0 t3).bind fun t10=>
  (sLd false 1 t10 m_3).bind fun t11=>
  (sFA 1 t3).bind fun t12=>
  (sLd false 1 t12 m_3).bind fun t13=>
  (sFA 2 t3).bind fun t14=>
  (sLd false 1 t14 m_3).bind fun t15=>
  (sLen Try.prog x5 t15).bind fun t16=>
  (x1pb call x4i [t11,t13,t16] m_3).bind fun p17=>
  (sNe p17.1 (I 0)).bind fun t19=>
  x1pc t19
  (some (p17.1,p17.2))
  ((sFA 0 t3).bind fun t21=>
  (sLd false 1 t21 p17.2).bind fun t22=>
  (sFA 1 t3).bind fun t23=>
  (sLd false 1 t23 p17.2).bind fun t24=>
  (sMul t22 t24).bind fun t25=>
  (sGt t25 (I 144)).bind fun t26=>
  x1pc t26
  (some ((I 8),p17.2))
  ((sFA 2 t3).bind fun t27=>
  (sLd false 1 t27 p17.2).bind fun t28=>
  (x1pb call x4j [t28] p17.2).bind fun p29=>
  (sNe p29.1 (I 0)).bind fun t31=>
  x1pc t31
  (some (p29.1,p29.2))
  ((sFA 3 t1).bind fun t33=>
  (sLd false 1 t33 p29.2).bind fun t34=>
  (sLen Try.prog x5 t34).bind fun t35=>
  (sFA 0 t3).bind fun t36=>
  (sLd false 1 t36 p29.2).bind fun t37=>
  (sFA 1 t3).bind fun t38=>
  (sLd false 1 t38 p29.2).bind fun t39=>
  (sSub t39 (I 1)).bind fun t40=>
  (sMul t37 t40).bind fun t41=>
  (sNe t35 t41).bind fun t42=>
  (bif sW t42 false then (sFA 4 t1).bind fun v=>some (v,p29.2) else some (U,p29.2)).bind fun p44=>
  (bif sW t42 false then (sLd false 1 p44.1 p44.2).bind fun v=>some (v,p44.2) else some (U,p44.2)).bind fun p45=>
  (bif sW t42 false then (sLen Try.prog x5 p45.1).bind fun v=>some (v,p45.2) else some (U,p45.2)).bind fun p46=>
  (bif sW t42 false then (sFA 0 t3).bind fun v=>some (v,p46.2) else some (U,p46.2)).bind fun p47=>
  (bif sW t42 false then (sLd false 1 p47.1 p47.2).bind fun v=>some (v,p47.2) else some (U,p47.2)).bind fun p48=>
  (bif sW t42 false then (sSub p48.1 (I 1)).bind fun v=>some (v,p48.2) else some (U,p48.2)).bind fun p49=>
  (bif sW t42 false then (sFA 1 t3).bind fun v=>some (v,p49.2) else some (U,p49.2)).bind fun p50=>
  (bif sW t42 false then (sLd false 1 p50.1 p50.2).bind fun v=>some (v,p50.2) else some (U,p50.2)).bind fun p51=>
  (bif sW t42 false then (sMul p49.1 p51.1).bind fun v=>some (v,p51.2) else some (U,p51.2)).bind fun p52=>
  (bif sW t42 false then (sNe p46.1 p52.1).bind fun v=>some (v,p52.2) else some (U,p52.2)).bind fun p53=>
  (x1ph t42 (B true) p53.1).bind fun t54=>
  x1pc t54
  (some ((I 10),p53.2))
  (xc6 call hs u t1 p53.2 (fc+51)))))
noncomputable def x54 (call:x1p9) (hs:FHs) (u:Nat) (m:Mem) (fc:Nat):O2:=
 some ((I 0),m)
noncomputable def xc7 (call:x1p9) (hs:FHs) (u:Nat) (rec0:AV→AV→AV→Mem→Nat→O2) (t57 t58 t59:AV) (m:Mem) (fc:Nat):O2:=
 (sLt t59 t58).bind fun t60=>
  x1pc t60
  ((sIx 1 t57 t59).bind fun t61=>
  (sLd false 1 t61 m).bind fun t62=>
  (x1pb call x4m [t62] m).bind fun p64=>
  (sNot p64.1).bind fun t65=>
  x1pc t65
  (some ((I 2),p64.2))
  ((sAdd t59 (I 1)).bind fun t66=>
  rec0 t57 t58 t66 p64.2 (fc+9)))
  (x54 call hs u m (fc+1))
noncomputable def x3i (call:x1p9) (hs:FHs) (u:Nat):Nat→AV→AV→AV→Mem→Nat→O2
 | 0=>fun _ _ _ _ _=>none
 | n+1=>fun t57 t58 t59 m fc=>xc7 call hs u (x3i call hs u n) t57 t58 t59 m fc
noncomputable def xc8 (call:x1p9) (hs:FHs) (u:Nat) (t1:AV) (m:Mem) (fc:Nat):O2:=
 (sFA 3 t1).bind fun t52=>
  (sLd false 1 t52 m).bind fun t53=>
  (sFA 4 t1).bind fun t54=>
  (sLd false 1 t54 m).bind fun t55=>
  x1pt x18 [(0,1,t53),(1,1,t55)] 2 1 (u,fc+4,56) m fun t56 m_1=>
  (x1pb call x34 [t56] m_1).bind fun p57=>
  (sLen Try.prog x5 p57.1).bind fun t58=>
  x3i call hs u NN p57.1 t58 (I 0) p57.2 (fc+8)
noncomputable def xh4 (call:x1p9) (hs:FHs) (u:Nat) (t0:AV) (m:Mem) (fc:Nat):O2:=
 sBox t0 (u,fc,1) m fun t1 m_2=>
  (sFA 0 t1).bind fun t8=>
  (sLd true 3 t8 m_2).bind fun t9=>
  x1po xp (u,fc+4,3) m_2 fun t3 m_3=>
  sSt 3 t3 t9 m_3 fun m_4=>
  (sFA 0 t3).bind fun t10=>
  (sLd false 1 t10 m_4).bind fun t11=>
  (sFA 1 t3).bind fun t12=>
  (sLd false 1 t12 m_4).bind fun t13=>
  (sFA 2 t3).bind fun t14=>
  (sLd false 1 t14 m_4).bind fun t15=>
  (sLen Try.prog x5 t15).bind fun t16=>
  (x1pb call x4k [t11,t13,t16] m_4).bind fun p17=>
  (sNe p17.1 (I 0)).bind fun t19=>
  x1pc t19
  (some (p17.1,p17.2))
  ((sFA 2 t3).bind fun t21=>
  (sLd false 1 t21 p17.2).bind fun t22=>
  (sLen Try.prog x5 t22).bind fun t23=>
  (sGt t23 (I 144)).bind fun t24=>
  x1pc t24
  (some ((I 8),p17.2))
  ((sLd true 3 t3 p17.2).bind fun t25=>
  (x1pb call x4l [t25,(AV.clo x33 [])] p17.2).bind fun p26=>
  (sNe p26.1 (I 0)).bind fun t28=>
  x1pc t28
  (some (p26.1,p26.2))
  ((sFA 3 t1).bind fun t30=>
  (sLd false 1 t30 p26.2).bind fun t31=>
  (sLen Try.prog x5 t31).bind fun t32=>
  (sFA 0 t3).bind fun t33=>
  (sLd false 1 t33 p26.2).bind fun t34=>
  (sFA 1 t3).bind fun t35=>
  (sLd false 1 t35 p26.2).bind fun t36=>
  (sSub t36 (I 1)).bind fun t37=>
  (sMul t34 t37).bind fun t38=>
  (sNe t32 t38).bind fun t39=>
  (bif sW t39 false then (sFA 4 t1).bind fun v=>some (v,p26.2) else some (U,p26.2)).bind fun p41=>
  (bif sW t39 false then (sLd false 1 p41.1 p41.2).bind fun v=>some (v,p41.2) else some (U,p41.2)).bind fun p42=>
  (bif sW t39 false then (sLen Try.prog x5 p42.1).bind fun v=>some (v,p42.2) else some (U,p42.2)).bind fun p43=>
  (bif sW t39 false then (sFA 0 t3).bind fun v=>some (v,p43.2) else some (U,p43.2)).bind fun p44=>
  (bif sW t39 false then (sLd false 1 p44.1 p44.2).bind fun v=>some (v,p44.2) else some (U,p44.2)).bind fun p45=>
  (bif sW t39 false then (sSub p45.1 (I 1)).bind fun v=>some (v,p45.2) else some (U,p45.2)).bind fun p46=>
  (bif sW t39 false then (sFA 1 t3).bind fun v=>some (v,p46.2) else some (U,p46.2)).bind fun p47=>
  (bif sW t39 false then (sLd false 1 p47.1 p47.2).bind fun v=>some (v,p47.2) else some (U,p47.2)).bind fun p48=>
  (bif sW t39 false then (sMul p46.1 p48.1).bind fun v=>some (v,p48.2) else some (U,p48.2)).bind fun p49=>
  (bif sW t39 false then (sNe p43.1 p49.1).bind fun v=>some (v,p49.2) else some (U,p49.2)).bind fun p50=>
  (x1ph t39 (B true) p50.1).bind fun t51=>
  x1pc t51
  (some ((I 10),p50.2))
  (xc8 call hs u t1 p50.2 (fc+48)))))
noncomputable def x6a (call:x1p9) (hs:FHs) (u:Nat) (m:Mem) (fc:Nat):O2:=
 some ((B true),m)
noncomputable def xme (call:x1p9) (hs:FHs) (u:Nat) (rec0:AV→AV→AV→Mem→Nat→O2) (t2 t3 t5:AV) (m:Mem) (fc:Nat):O2:=
 (sFA 1 t2).bind fun t21=>
  (sLd false 1 t21 m).bind fun t22=>
  (sLen Try.prog x7 t22).bind fun t23=>
  (sLt t5 t23).bind fun t24=>
  x1pc t24
  ((sFA 1 t2).bind fun t27=>
  (sLd false 1 t27 m).bind fun t28=>
  (sIx 4 t28 t5).bind fun t30=>
  (sLd true 4 t30 m).bind fun t31=>
  (sFA 1 t3).bind fun t32=>
  (sLd false 1 t32 m).bind fun t33=>
  (sIx 4 t33 t5).bind fun t35=>
  (sLd true 4 t35 m).bind fun t36=>
  (sBin Try.prog .neq xc9 (.tmp 31) (.tmp 36) t31 t36).bind fun t37=>
  x1pc t37
  (some ((B false),m))
  ((sAdd t5 (I 1)).bind fun t26=>
  rec0 t2 t3 t26 m (fc+19)))
  (x6a call hs u m (fc+5))
noncomputable def x70 (call:x1p9) (hs:FHs) (u:Nat):Nat→AV→AV→AV→Mem→Nat→O2
 | 0=>fun _ _ _ _ _=>none
 | n+1=>fun t2 t3 t5 m fc=>xme call hs u (x70 call hs u n) t2 t3 t5 m fc
noncomputable def xh5 (call:x1p9) (hs:FHs) (u:Nat) (t2 t3:AV) (m:Mem) (fc:Nat):O2:=
 x70 call hs u NN t2 t3 (I 0) m (fc+1)
noncomputable def xmf (call:x1p9) (hs:FHs) (u:Nat) (t0 t1:AV) (m:Mem) (fc:Nat):O2:=
 sBox t0 (u,fc,2) m fun t2 m_1=>
  sBox t1 (u,fc+1,3) m_1 fun t3 m_2=>
  (sFA 0 t2).bind fun t6=>
  (sLd false 1 t6 m_2).bind fun t7=>
  (sFA 0 t3).bind fun t8=>
  (sLd false 1 t8 m_2).bind fun t9=>
  (sNe t7 t9).bind fun t10=>
  (bif sW t10 false then (sFA 1 t2).bind fun v=>some (v,m_2) else some (U,m_2)).bind fun p12=>
  (bif sW t10 false then (sLd false 1 p12.1 p12.2).bind fun v=>some (v,p12.2) else some (U,p12.2)).bind fun p13=>
  (bif sW t10 false then (sLen Try.prog x7 p13.1).bind fun v=>some (v,p13.2) else some (U,p13.2)).bind fun p14=>
  (bif sW t10 false then (sFA 1 t3).bind fun v=>some (v,p14.2) else some (U,p14.2)).bind fun p15=>
  (bif sW t10 false then (sLd false 1 p15.1 p15.2).bind fun v=>some (v,p15.2) else some (U,p15.2)).bind fun p16=>
  (bif sW t10 false then (sLen Try.prog x7 p16.1).bind fun v=>some (v,p16.2) else some (U,p16.2)).bind fun p17=>
  (bif sW t10 false then (sNe p14.1 p17.1).bind fun v=>some (v,p17.2) else some (U,p17.2)).bind fun p18=>
  (x1ph t10 (B true) p18.1).bind fun t19=>
  x1pc t19
  (some ((B false),p18.2))
  (xh5 call hs u t2 t3 p18.2 (fc+17))
noncomputable def xg (call:x1p9) (hs:FHs) (u:Nat) (t2 t4:AV) (m:Mem) (fc:Nat):O2:=
 (sLd true 2 t4 m).bind fun t118=>
  sSt 2 t2 t118 m fun m_1=>
  (sLdP true 2 t2 m_1).bind fun r0=>
  some (r0,m_1)
noncomputable def xh (call:x1p9) (hs:FHs) (u:Nat) (rec0:AV→AV→AV→AV→AV→Mem→Nat→O2) (t1 t2 t3 t4 t9:AV) (m:Mem) (fc:Nat):O2:=
 (sAdd t9 (I 1)).bind fun t76=>
  rec0 t1 t2 t3 t4 t76 m (fc+3)
noncomputable def x71 (call:x1p9) (hs:FHs) (u:Nat) (rec0:AV→AV→AV→AV→AV→Mem→Nat→O2) (rec1:AV→AV→AV→AV→AV→AV→Mem→Nat→O2) (t1 t2 t3 t4 t9 t10:AV) (m:Mem) (fc:Nat):O2:=
 (sAdd t10 (I 1)).bind fun t82=>
  rec1 t1 t2 t3 t4 t9 t82 m (fc+3)
noncomputable def xa8 (call:x1p9) (hs:FHs) (u:Nat) (rec0:AV→AV→AV→AV→AV→Mem→Nat→O2) (rec1:AV→AV→AV→AV→AV→AV→Mem→Nat→O2) (t1 t2 t3 t4 t9 t10:AV) (m:Mem) (fc:Nat):O2:=
 (sLd true 3 t3 m).bind fun t84=>
  (sFA 1 t3).bind fun t86=>
  (sLd false 1 t86 m).bind fun t87=>
  (sMul t9 t87).bind fun t88=>
  (sAdd t88 t10).bind fun t90=>
  (sAdd t9 (I 1)).bind fun t92=>
  (sFA 1 t3).bind fun t93=>
  (sLd false 1 t93 m).bind fun t94=>
  (sMul t92 t94).bind fun t95=>
  (sAdd t95 t10).bind fun t97=>
  (sFA 4 t1).bind fun t98=>
  (sLd false 1 t98 m).bind fun t99=>
  (sFA 1 t3).bind fun t101=>
  (sLd false 1 t101 m).bind fun t102=>
  (sMul t9 t102).bind fun t103=>
  (sAdd t103 t10).bind fun t105=>
  (sIx 1 t99 t105).bind fun t106=>
  (sLd false 1 t106 m).bind fun t107=>
  (x1pb call x4n [t84,t90,t97,t107] m).bind fun p108=>
  (sExt p108.1 0).bind fun t109=>
  (sExt p108.1 1).bind fun t110=>
  x1po x6 (u,fc+28,11) p108.2 fun t11 m_2=>
  sSt 4 t11 t109 m_2 fun m_3=>
  bif (x1pd (tR t3) (some [],some [(u,fc+28,11)])&&(x1pd (tR t86) (some [],some [(u,fc+28,11)])&&(x1pd (tR t93) (some [],some [(u,fc+28,11)])&&(x1pd (tR t98) (some [],some [(u,fc+28,11)])&&(x1pd (tR t101) (some [],some [(u,fc+28,11)])&&(x1pd (tR t106) (some [],some [(u,fc+28,11)])&&(cAp (some m.next) (some [],some [(u,fc+28,11)]) (mkM 0 [t84,t90,t97,t107])&&true))))))) then
  x1pc t110
  ((sFA 1 t4).bind fun t112=>
  (sLd false 1 t112 m_3).bind fun t113=>
  (sLd true 4 t11 m_3).bind fun t114=>
  x1pt x6 [(0,4,t114)] 1 4 (u,fc+35,115) m_3 fun t115 m_4=>
  sApp 4 32 (u,fc+36,116) (elems m_4.get 4 t115) t113 m_4 fun t116 m_5=>
  (sFA 1 t4).bind fun t117=>
  sSt 1 t117 t116 m_5 fun m_6=>
  x71 call hs u rec0 rec1 t1 t2 t3 t4 t9 t10 m_6 (fc+39))
  (x71 call hs u rec0 rec1 t1 t2 t3 t4 t9 t10 m_3 (fc+32)) else none
noncomputable def xa9 (call:x1p9) (hs:FHs) (u:Nat) (rec0:AV→AV→AV→AV→AV→Mem→Nat→O2) (rec1:AV→AV→AV→AV→AV→AV→Mem→Nat→O2) (t1 t2 t3 t4 t9 t10:AV) (m:Mem) (fc:Nat):O2:=
 (sFA 1 t3).bind fun t78=>
  (sLd false 1 t78 m).bind fun t79=>
  (sLt t10 t79).bind fun t80=>
  x1pc t80
  (xa8 call hs u rec0 rec1 t1 t2 t3 t4 t9 t10 m (fc+4))
  (xh call hs u rec0 t1 t2 t3 t4 t9 m (fc+4))
noncomputable def x11 (call:x1p9) (hs:FHs) (u:Nat) (rec0:AV→AV→AV→AV→AV→Mem→Nat→O2):Nat→AV→AV→AV→AV→AV→AV→Mem→Nat→O2
 | 0=>fun _ _ _ _ _ _ _ _=>none
 | n+1=>fun t1 t2 t3 t4 t9 t10 m fc=>xa9 call hs u rec0 (x11 call hs u rec0 n) t1 t2 t3 t4 t9 t10 m fc
noncomputable def xaa (call:x1p9) (hs:FHs) (u:Nat) (rec0:AV→AV→AV→AV→AV→Mem→Nat→O2) (t1 t2 t3 t4 t9:AV) (m:Mem) (fc:Nat):O2:=
 x11 call hs u rec0 NN t1 t2 t3 t4 t9 (I 0) m (fc+1)
noncomputable def xca (call:x1p9) (hs:FHs) (u:Nat) (rec0:AV→AV→AV→AV→AV→Mem→Nat→O2) (t1 t2 t3 t4 t9:AV) (m:Mem) (fc:Nat):O2:=
 (sAdd t9 (I 1)).bind fun t71=>
  (sFA 0 t3).bind fun t72=>
  (sLd false 1 t72 m).bind fun t73=>
  (sLt t71 t73).bind fun t74=>
  x1pc t74
  (xaa call hs u rec0 t1 t2 t3 t4 t9 m (fc+5))
  (xg call hs u t2 t4 m (fc+5))
noncomputable def x2i (call:x1p9) (hs:FHs) (u:Nat):Nat→AV→AV→AV→AV→AV→Mem→Nat→O2
 | 0=>fun _ _ _ _ _ _ _=>none
 | n+1=>fun t1 t2 t3 t4 t9 m fc=>xca call hs u (x2i call hs u n) t1 t2 t3 t4 t9 m fc
noncomputable def xc (call:x1p9) (hs:FHs) (u:Nat) (t1 t2 t3 t4:AV) (m:Mem) (fc:Nat):O2:=
 x2i call hs u NN t1 t2 t3 t4 (I 0) m (fc+1)
noncomputable def xi (call:x1p9) (hs:FHs) (u:Nat) (rec2:AV→AV→AV→AV→AV→Mem→Nat→O2) (t1 t2 t3 t4 t5:AV) (m:Mem) (fc:Nat):O2:=
 (sAdd t5 (I 1)).bind fun t26=>
  rec2 t1 t2 t3 t4 t26 m (fc+3)
noncomputable def x72 (call:x1p9) (hs:FHs) (u:Nat) (rec2:AV→AV→AV→AV→AV→Mem→Nat→O2) (rec3:AV→AV→AV→AV→AV→AV→Mem→Nat→O2) (t1 t2 t3 t4 t5 t6:AV) (m:Mem) (fc:Nat):O2:=
 (sAdd t6 (I 1)).bind fun t33=>
  rec3 t1 t2 t3 t4 t5 t33 m (fc+3)
noncomputable def xab (call:x1p9) (hs:FHs) (u:Nat) (rec2:AV→AV→AV→AV→AV→Mem→Nat→O2) (rec3:AV→AV→AV→AV→AV→AV→Mem→Nat→O2) (t1 t2 t3 t4 t5 t6:AV) (m:Mem) (fc:Nat):O2:=
 (sLd true 3 t3 m).bind fun t35=>
  (sFA 1 t3).bind fun t37=>
  (sLd false 1 t37 m).bind fun t38=>
  (sMul t5 t38).bind fun t39=>
  (sAdd t39 t6).bind fun t41=>
  (sFA 1 t3).bind fun t43=>
  (sLd false 1 t43 m).bind fun t44=>
  (sMul t5 t44).bind fun t45=>
  (sAdd t45 t6).bind fun t47=>
  (sAdd t47 (I 1)).bind fun t48=>
  (sFA 3 t1).bind fun t49=>
  (sLd false 1 t49 m).bind fun t50=>
  (sFA 1 t3).bind fun t52=>
  (sLd false 1 t52 m).bind fun t53=>
  (sSub t53 (I 1)).bind fun t54=>
  (sMul t5 t54).bind fun t55=>
  (sAdd t55 t6).bind fun t57=>
  (sIx 1 t50 t57).bind fun t58=>
  (sLd false 1 t58 m).bind fun t59=>
  (x1pb call x4n [t35,t41,t48,t59] m).bind fun p60=>
  (sExt p60.1 0).bind fun t61=>
  (sExt p60.1 1).bind fun t62=>
  x1po x6 (u,fc+29,7) p60.2 fun t7 m_7=>
  sSt 4 t7 t61 m_7 fun m_8=>
  bif (x1pd (tR t3) (some [],some [(u,fc+29,7)])&&(x1pd (tR t37) (some [],some [(u,fc+29,7)])&&(x1pd (tR t43) (some [],some [(u,fc+29,7)])&&(x1pd (tR t49) (some [],some [(u,fc+29,7)])&&(x1pd (tR t52) (some [],some [(u,fc+29,7)])&&(x1pd (tR t58) (some [],some [(u,fc+29,7)])&&(cAp (some m.next) (some [],some [(u,fc+29,7)]) (mkM 0 [t35,t41,t48,t59])&&true))))))) then
  x1pc t62
  ((sFA 1 t4).bind fun t64=>
  (sLd false 1 t64 m_8).bind fun t65=>
  (sLd true 4 t7 m_8).bind fun t66=>
  x1pt x6 [(0,4,t66)] 1 4 (u,fc+36,67) m_8 fun t67 m_9=>
  sApp 4 32 (u,fc+37,68) (elems m_9.get 4 t67) t65 m_9 fun t68 m_10=>
  (sFA 1 t4).bind fun t69=>
  sSt 1 t69 t68 m_10 fun m_11=>
  x72 call hs u rec2 rec3 t1 t2 t3 t4 t5 t6 m_11 (fc+40))
  (x72 call hs u rec2 rec3 t1 t2 t3 t4 t5 t6 m_8 (fc+33)) else none
noncomputable def xac (call:x1p9) (hs:FHs) (u:Nat) (rec2:AV→AV→AV→AV→AV→Mem→Nat→O2) (rec3:AV→AV→AV→AV→AV→AV→Mem→Nat→O2) (t1 t2 t3 t4 t5 t6:AV) (m:Mem) (fc:Nat):O2:=
 (sAdd t6 (I 1)).bind fun t28=>
  (sFA 1 t3).bind fun t29=>
  (sLd false 1 t29 m).bind fun t30=>
  (sLt t28 t30).bind fun t31=>
  x1pc t31
  (xab call hs u rec2 rec3 t1 t2 t3 t4 t5 t6 m (fc+5))
  (xi call hs u rec2 t1 t2 t3 t4 t5 m (fc+5))
noncomputable def x12 (call:x1p9) (hs:FHs) (u:Nat) (rec2:AV→AV→AV→AV→AV→Mem→Nat→O2):Nat→AV→AV→AV→AV→AV→AV→Mem→Nat→O2
 | 0=>fun _ _ _ _ _ _ _ _=>none
 | n+1=>fun t1 t2 t3 t4 t5 t6 m fc=>xac call hs u rec2 (x12 call hs u rec2 n) t1 t2 t3 t4 t5 t6 m fc
noncomputable def xad (call:x1p9) (hs:FHs) (u:Nat) (rec2:AV→AV→AV→AV→AV→Mem→Nat→O2) (t1 t2 t3 t4 t5:AV) (m:Mem) (fc:Nat):O2:=
 x12 call hs u rec2 NN t1 t2 t3 t4 t5 (I 0) m (fc+1)
noncomputable def xcb (call:x1p9) (hs:FHs) (u:Nat) (rec2:AV→AV→AV→AV→AV→Mem→Nat→O2) (t1 t2 t3 t4 t5:AV) (m:Mem) (fc:Nat):O2:=
 (sFA 0 t3).bind fun t22=>
  (sLd false 1 t22 m).bind fun t23=>
  (sLt t5 t23).bind fun t24=>
  x1pc t24
  (xad call hs u rec2 t1 t2 t3 t4 t5 m (fc+4))
  (xc call hs u t1 t2 t3 t4 m (fc+4))
noncomputable def x2j (call:x1p9) (hs:FHs) (u:Nat):Nat→AV→AV→AV→AV→AV→Mem→Nat→O2
 | 0=>fun _ _ _ _ _ _ _=>none
 | n+1=>fun t1 t2 t3 t4 t5 m fc=>xcb call hs u (x2j call hs u n) t1 t2 t3 t4 t5 m fc
noncomputable def xcc (call:x1p9) (hs:FHs) (u:Nat) (t1 t2 t3 t4:AV) (m:Mem) (fc:Nat):O2:=
 x2j call hs u NN t1 t2 t3 t4 (I 0) m (fc+1)
noncomputable def xh6 (call:x1p9) (hs:FHs) (u:Nat) (t0:AV) (m:Mem) (fc:Nat):O2:=
 sBox t0 (u,fc,1) m fun t1 m_12=>
  x1po xo (u,fc+1,2) m_12 fun t2 m_13=>
  (sFA 0 t1).bind fun t13=>
  (sLd true 3 t13 m_13).bind fun t14=>
  x1po xp (u,fc+4,3) m_13 fun t3 m_14=>
  sSt 3 t3 t14 m_14 fun m_15=>
  (sFA 0 t3).bind fun t15=>
  (sLd false 1 t15 m_15).bind fun t16=>
  (sFA 1 t3).bind fun t17=>
  (sLd false 1 t17 m_15).bind fun t18=>
  (sMul t16 t18).bind fun t19=>
  (x1pl xo [(0,1,t19)]).bind fun t20=>
  x1po xo (u,fc+12,4) m_15 fun t4 m_16=>
  sSt 2 t4 t20 m_16 fun m_17=>
  xcc call hs u t1 t2 t3 t4 m_17 (fc+14)
noncomputable def xmg (call:x1p9) (hs:FHs) (u:Nat) (t0 t1 t2:AV) (m:Mem) (fc:Nat):O2:=
 sBox t0 (u,fc,3) m fun t3 m_1=>
  x1po x66 (u,fc+1,6) m_1 fun t6 m_2=>
  (sLd true 2 t3 m_2).bind fun t13=>
  (x1pb call x4g [t13] m_2).bind fun p14=>
  (sExt p14.1 0).bind fun t15=>
  (sExt p14.1 1).bind fun t16=>
  x1po x16 (u,fc+8,8) p14.2 fun t8 m_3=>
  sSt 2 t8 t15 m_3 fun m_4=>
  (sNe t16 (I 0)).bind fun t19=>
  x1pc t19
  ((x1pl x66 []).bind fun t20=>
  sSt 2 t6 t20 m_4 fun m_5=>
  (sLdP true 2 t6 m_5).bind fun r0=>
  some (AV.tup [r0,t16],m_5))
  ((sFA 0 t3).bind fun t24=>
  (sLd false 1 t24 m_4).bind fun t25=>
  (sSub t25 (I 1)).bind fun t26=>
  (x1pb call xe [t1,(I 0),t26] m_4).bind fun p27=>
  (sNot p27.1).bind fun t28=>
  (bif sW t28 false then some (t2,p27.2) else some (U,p27.2)).bind fun p30=>
  (bif sW t28 false then (sFA 0 t3).bind fun v=>some (v,p30.2) else some (U,p30.2)).bind fun p31=>
  (bif sW t28 false then (sLd false 1 p31.1 p31.2).bind fun v=>some (v,p31.2) else some (U,p31.2)).bind fun p32=>
  (bif sW t28 false then (sSub p32.1 (I 1)).bind fun v=>some (v,p32.2) else some (U,p32.2)).bind fun p33=>
  (bif sW t28 false then (x1pb call xe [p30.1,(I 0),p33.1] p33.2).bind fun p=>some (p.1,p.2) else some (U,p33.2)).bind fun p34=>
  (bif sW t28 false then (sNot p34.1).bind fun v=>some (v,p34.2) else some (U,p34.2)).bind fun p35=>
  (x1ph t28 (B true) p35.1).bind fun t36=>
  x1pc t36
  ((x1pl x66 []).bind fun t37=>
  sSt 2 t6 t37 p35.2 fun m_6=>
  (sLdP true 2 t6 m_6).bind fun r0=>
  some (AV.tup [r0,(I 6)],m_6))
  ((sLd true 2 t8 p35.2).bind fun t38=>
  (x1pb call x4o [t38] p35.2).bind fun p39=>
  (sIx 1 p39.1 t1).bind fun t42=>
  (sLd false 1 t42 p39.2).bind fun t43=>
  (sIx 1 p39.1 t2).bind fun t46=>
  (sLd false 1 t46 p39.2).bind fun t47=>
  (sNe t43 t47).bind fun t48=>
  x1pc t48
  ((x1pl x66 []).bind fun t49=>
  sSt 2 t6 t49 p39.2 fun m_7=>
  (sLdP true 2 t6 m_7).bind fun r0=>
  some (AV.tup [r0,(I 25)],m_7))
  ((sLd true 2 t8 p39.2).bind fun t50=>
  (x1s9 call x1t [t50] p39.2).bind fun p51=>
  (x1u3 call x5x [p51.1,t2] p51.2).bind fun p54=>
  (sIx 1 p54.1 t1).bind fun t56=>
  (sLd false 1 t56 p54.2).bind fun t57=>
  (sNeg t57).bind fun t58=>
  (x1u3 call x5x [p51.1,t1] p54.2).bind fun p61=>
  (sIx 1 p61.1 t2).bind fun t63=>
  (sLd false 1 t63 p61.2).bind fun t64=>
  (x1pl x66 [(0,1,t58),(1,1,t64)]).bind fun t65=>
  sSt 2 t6 t65 p61.2 fun m_8=>
  bif (Nat.ble 1 (mkM 4 [p51.1,t2])&&(Nat.ble 1 (mkM 4 [p51.1,t1])&&true))&&(cAp none (tR t56) (mkM 4 [p51.1,t1])&&true) then
  (sLdP true 2 t6 m_8).bind fun r0=>
  some (AV.tup [r0,(I 0)],m_8) else none)))
noncomputable def x55 (call:x1p9) (hs:FHs) (u:Nat) (m:Mem) (fc:Nat):O2:=
 some ((B true),m)
noncomputable def xcd (call:x1p9) (hs:FHs) (u:Nat) (rec0:AV→AV→AV→Mem→Nat→O2) (t0 t1 t5:AV) (m:Mem) (fc:Nat):O2:=
 (sLen Try.prog x5 t0).bind fun t13=>
  (sLt t5 t13).bind fun t14=>
  x1pc t14
  ((sIx 1 t0 t5).bind fun t19=>
  (sLd false 1 t19 m).bind fun t20=>
  (sIx 1 t1 t5).bind fun t23=>
  (sLd false 1 t23 m).bind fun t24=>
  (sNe t20 t24).bind fun t25=>
  x1pc t25
  (some ((B false),m))
  ((sAdd t5 (I 1)).bind fun t16=>
  rec0 t0 t1 t16 m (fc+16)))
  (x55 call hs u m (fc+4))
noncomputable def x3j (call:x1p9) (hs:FHs) (u:Nat):Nat→AV→AV→AV→Mem→Nat→O2
 | 0=>fun _ _ _ _ _=>none
 | n+1=>fun t0 t1 t5 m fc=>xcd call hs u (x3j call hs u n) t0 t1 t5 m fc
noncomputable def xce (call:x1p9) (hs:FHs) (u:Nat) (t0 t1:AV) (m:Mem) (fc:Nat):O2:=
 x3j call hs u NN t0 t1 (I 0) m (fc+1)
noncomputable def xh7 (call:x1p9) (hs:FHs) (u:Nat) (t0 t1:AV) (m:Mem) (fc:Nat):O2:=
 (sLen Try.prog x5 t0).bind fun t7=>
  (sLen Try.prog x5 t1).bind fun t9=>
  (sNe t7 t9).bind fun t10=>
  x1pc t10
  (some ((B false),m))
  (xce call hs u t0 t1 m (fc+6))
noncomputable def xh8 (call:x1p9) (hs:FHs) (u:Nat) (t0 t1 t2:AV) (m:Mem) (fc:Nat):O2:=
 (sLe t1 t0).bind fun t9=>
  (bif sW t9 true then some (t0,m) else some (U,m)).bind fun p11=>
  (bif sW t9 true then some (t2,p11.2) else some (U,p11.2)).bind fun p12=>
  (bif sW t9 true then (sLe p11.1 p12.1).bind fun v=>some (v,p12.2) else some (U,p12.2)).bind fun p13=>
  (x1ph t9 p13.1 (B false)).bind fun t14=>
  some (t14,p13.2)
noncomputable def x56 (call:x1p9) (hs:FHs) (u:Nat) (rec0:AV→AV→Mem→Nat→O2) (t1 t3:AV) (m:Mem) (fc:Nat):O2:=
 (sLd true 2 t1 m).bind fun t11=>
  (x1pb call x4p [t11,t3] m).bind fun p13=>
  (sExt p13.1 0).bind fun t14=>
  (sExt p13.1 1).bind fun t15=>
  (sNot t15).bind fun t17=>
  x1pc t17
  (some (t3,p13.2))
  (rec0 t1 t14 p13.2 (fc+12))
noncomputable def x13 (call:x1p9) (hs:FHs) (u:Nat):Nat→AV→AV→Mem→Nat→O2
 | 0=>fun _ _ _ _=>none
 | n+1=>fun t1 t3 m fc=>x56 call hs u (x13 call hs u n) t1 t3 m fc
noncomputable def xh9 (call:x1p9) (hs:FHs) (u:Nat) (t0:AV) (m:Mem) (fc:Nat):O2:=
 sBox t0 (u,fc,1) m fun t1 m_1=>
  (sFA 1 t1).bind fun t6=>
  (sLd false 1 t6 m_1).bind fun t7=>
  (sLen Try.prog x7 t7).bind fun t8=>
  x1qd x1q0 1 8 t8 t8 (u,fc+5,9) m_1 fun t9 m_2=>
  x13 call hs u NN t1 t9 m_2 (fc+7)
noncomputable def xmh (call:x1p9) (hs:FHs) (u:Nat) (t0 t1:AV) (m:Mem) (fc:Nat):O2:=
 sBox t0 (u,fc,2) m fun t2 m_1=>
  (sLd true 2 t2 m_1).bind fun t9=>
  (x1pb call x4g [t9] m_1).bind fun p10=>
  (sExt p10.1 0).bind fun t11=>
  (sExt p10.1 1).bind fun t12=>
  x1po x16 (u,fc+8,6) p10.2 fun t6 m_2=>
  sSt 2 t6 t11 m_2 fun m_3=>
  (sNe t12 (I 0)).bind fun t15=>
  x1pc t15
  (some (AV.tup [(I 0),t12],m_3))
  ((sLen Try.prog x5 t1).bind fun t19=>
  (sFA 0 t2).bind fun t20=>
  (sLd false 1 t20 m_3).bind fun t21=>
  (sNe t19 t21).bind fun t22=>
  x1pc t22
  (some (AV.tup [(I 0),(I 10)],m_3))
  ((x1pb call x2f [t1,(AV.clo x9j [])] m_3).bind fun p25=>
  x1pc p25.1
  (some (AV.tup [(I 0),(I 2)],p25.2))
  ((sLd true 2 t6 p25.2).bind fun t26=>
  (x1ul call x2e [t26,t1] p25.2).bind fun p28=>
  some (AV.tup [p28.1,(I 0)],p28.2))))
noncomputable def xae (call:x1p9) (hs:FHs) (u:Nat) (t0:AV) (m:Mem) (fc:Nat):O2:=
 x1pt x1q0 [] 0 1 (u,fc+1,3) m fun t3 m_1=>
  sApp 1 8 (u,fc+3,5) (elems m_1.get 1 t0) t3 m_1 fun t5 m_2=>
  some (t5,m_2)
noncomputable def xmi (call:x1p9) (hs:FHs) (u:Nat) (t0:AV) (m:Mem) (fc:Nat):O2:=
 sBox t0 (u,fc,1) m fun t1 m_1=>
  (sLd true 2 t1 m_1).bind fun t3=>
  (x1pb call x47 [t3] m_1).bind fun p4=>
  (bif sW p4.1 true then (sLd true 2 t1 p4.2).bind fun v=>some (v,p4.2) else some (U,p4.2)).bind fun p6=>
  (bif sW p4.1 true then (x1pb call x2y [p6.1] p6.2).bind fun p=>some (p.1,p.2) else some (U,p6.2)).bind fun p7=>
  (bif sW p4.1 true then (sEq p7.1 (I 0)).bind fun v=>some (v,p7.2) else some (U,p7.2)).bind fun p8=>
  (x1ph p4.1 p8.1 (B false)).bind fun t9=>
  some (t9,p8.2)
noncomputable def x1g (call:x1p9) (hs:FHs) (u:Nat) (t2 t7 t8 t9:AV) (m:Mem) (fc:Nat):O2:=
 (sLd true 3 t9 m).bind fun t61=>
  (sNil t8).bind fun t63=>
  (sFA 2 t63).bind fun t64=>
  (sLd false 1 t64 m).bind fun t65=>
  (sLd true 2 t7 m).bind fun t66=>
  (sNil t8).bind fun t68=>
  (sFA 3 t68).bind fun t69=>
  (sLd false 1 t69 m).bind fun t70=>
  (x1ul call x2e [t66,t70] m).bind fun p71=>
  sSt 3 t2 t61 p71.2 fun m_1=>
  bif (Nat.ble 1 (mkM 3 [t66,t70])&&true)&&(cAp none (tR t9) (mkM 3 [t66,t70])&&(cAp none (tR t64) (mkM 3 [t66,t70])&&(x1pd (tR t64) (tS t2)&&true))) then
  (sLdP true 3 t2 m_1).bind fun r0=>
  some (AV.tup [r0,t65,p71.1,(I 0)],m_1) else none
noncomputable def x73 (call:x1p9) (hs:FHs) (u:Nat) (rec0:AV→AV→AV→AV→AV→AV→AV→Mem→Nat→O2) (t2 t7 t8 t9 t37 t38 t39:AV) (m:Mem) (fc:Nat):O2:=
 (sAdd t39 (I 1)).bind fun t60=>
  rec0 t2 t7 t8 t9 t37 t38 t60 m (fc+2)
noncomputable def xaf (call:x1p9) (hs:FHs) (u:Nat) (rec0:AV→AV→AV→AV→AV→AV→AV→Mem→Nat→O2) (t2 t7 t8 t9 t37 t38 t39:AV) (m:Mem) (fc:Nat):O2:=
 (sIx 1 t37 t39).bind fun t42=>
  (sLd false 1 t42 m).bind fun t43=>
  (sFA 2 t9).bind fun t44=>
  (sLd false 1 t44 m).bind fun t45=>
  (sIx 1 t45 t39).bind fun t47=>
  (sLd false 1 t47 m).bind fun t48=>
  (x1pb call x10 [t48] m).bind fun p49=>
  (sNot p49.1).bind fun t50=>
  x1pc t50
  ((sFA 2 t9).bind fun t51=>
  (sLd false 1 t51 p49.2).bind fun t52=>
  (sIx 1 t52 t39).bind fun t54=>
  (sLd false 1 t54 p49.2).bind fun t55=>
  (sMul t43 (I 4096)).bind fun t57=>
  (sAdd t55 t57).bind fun t58=>
  (sIx 1 t52 t39).bind fun t59=>
  sSt 1 t59 t58 p49.2 fun m_2=>
  x73 call hs u rec0 t2 t7 t8 t9 t37 t38 t39 m_2 (fc+22))
  (x73 call hs u rec0 t2 t7 t8 t9 t37 t38 t39 p49.2 (fc+12))
noncomputable def xag (call:x1p9) (hs:FHs) (u:Nat) (rec0:AV→AV→AV→AV→AV→AV→AV→Mem→Nat→O2) (t2 t7 t8 t9 t37 t38 t39:AV) (m:Mem) (fc:Nat):O2:=
 (sLt t39 t38).bind fun t40=>
  x1pc t40
  (xaf call hs u rec0 t2 t7 t8 t9 t37 t38 t39 m (fc+1))
  (x1g call hs u t2 t7 t8 t9 m (fc+1))
noncomputable def x1w (call:x1p9) (hs:FHs) (u:Nat):Nat→AV→AV→AV→AV→AV→AV→AV→Mem→Nat→O2
 | 0=>fun _ _ _ _ _ _ _ _ _=>none
 | n+1=>fun t2 t7 t8 t9 t37 t38 t39 m fc=>xag call hs u (x1w call hs u n) t2 t7 t8 t9 t37 t38 t39 m fc
noncomputable def xcf (call:x1p9) (hs:FHs) (u:Nat) (t2 t7 t8 t9:AV) (m:Mem) (fc:Nat):O2:=
 (sNil t8).bind fun t35=>
  (sFA 3 t35).bind fun t36=>
  (sLd false 1 t36 m).bind fun t37=>
  (sLen Try.prog x5 t37).bind fun t38=>
  x1w call hs u NN t2 t7 t8 t9 t37 t38 (I 0) m (fc+6)
noncomputable def xah (call:x1p9) (hs:FHs) (u:Nat) (t0:AV) (m:Mem) (fc:Nat):O2:=
 sBox t0 (u,fc,1) m fun t1 m_3=>
  x1po xp (u,fc+1,2) m_3 fun t2 m_4=>
  (sLd true 5 t1 m_4).bind fun t12=>
  (x1pb call x1s [t12] m_4).bind fun p13=>
  (sNe p13.1 (I 0)).bind fun t15=>
  x1pc t15
  ((x1pl xp []).bind fun t16=>
  sSt 3 t2 t16 p13.2 fun m_5=>
  (sLdP true 3 t2 m_5).bind fun r0=>
  some (AV.tup [r0,nilS,(I 0),p13.1],m_5))
  ((sLd true 5 t1 p13.2).bind fun t18=>
  (x1pb call x1e [t18] p13.2).bind fun p19=>
  (x1pl x16 [(0,2,p19.1)]).bind fun t20=>
  x1po x16 (u,fc+13,7) p19.2 fun t7 m_6=>
  sSt 2 t7 t20 m_6 fun m_7=>
  (sLd true 2 t7 m_7).bind fun t21=>
  (x1s9 call x1t [t21] m_7).bind fun p22=>
  (sFA 0 t1).bind fun t23=>
  (sFA 0 t23).bind fun t24=>
  (sLd false 1 t24 p22.2).bind fun t25=>
  (sFA 0 t1).bind fun t26=>
  (sFA 1 t26).bind fun t27=>
  (sLd false 1 t27 p22.2).bind fun t28=>
  (sFA 0 t1).bind fun t29=>
  (sFA 2 t29).bind fun t30=>
  (sLd false 1 t30 p22.2).bind fun t31=>
  (x1s9 call x4q [t31] p22.2).bind fun p32=>
  (x1pl xp [(0,1,t25),(1,1,t28),(2,1,p32.1)]).bind fun t33=>
  x1po xp (u,fc+29,9) p32.2 fun t9 m_8=>
  sSt 3 t9 t33 m_8 fun m_9=>
  bif (Nat.ble 1 (mkM 1 [t31])&&true)&&(cAp none (tR t24) (mkM 1 [t31])&&(cAp none (tR t27) (mkM 1 [t31])&&(x1pd (tR t24) (some [],some [(u,fc+29,9)])&&(x1pd (tR t27) (some [],some [(u,fc+29,9)])&&(x1pd (tR t30) (some [],some [(u,fc+29,9)])&&(cAp (some p22.2.next) (some [],some [(u,fc+29,9)]) (mkM 1 [t31])&&true)))))) then
  xcf call hs u t2 t7 p22.1 t9 m_9 (fc+31) else none)
noncomputable def xha (call:x1p9) (hs:FHs) (u:Nat) (t0 t1:AV) (m:Mem) (fc:Nat):O2:=
 sBox t0 (u,fc,2) m fun t2 m_1=>
  sBox t1 (u,fc+1,3) m_1 fun t3 m_2=>
  (sFA 0 t2).bind fun t5=>
  (sLd false 1 t5 m_2).bind fun t6=>
  (sFA 0 t3).bind fun t7=>
  (sLd false 1 t7 m_2).bind fun t8=>
  (sEq t6 t8).bind fun t9=>
  (bif sW t9 true then (sFA 1 t2).bind fun v=>some (v,m_2) else some (U,m_2)).bind fun p11=>
  (bif sW t9 true then (sLd false 1 p11.1 p11.2).bind fun v=>some (v,p11.2) else some (U,p11.2)).bind fun p12=>
  (bif sW t9 true then (sFA 1 t3).bind fun v=>some (v,p12.2) else some (U,p12.2)).bind fun p13=>
  (bif sW t9 true then (sLd false 1 p13.1 p13.2).bind fun v=>some (v,p13.2) else some (U,p13.2)).bind fun p14=>
  (bif sW t9 true then (sEq p12.1 p14.1).bind fun v=>some (v,p14.2) else some (U,p14.2)).bind fun p15=>
  (x1ph t9 p15.1 (B false)).bind fun t16=>
  (bif sW t16 true then (sFA 2 t2).bind fun v=>some (v,p15.2) else some (U,p15.2)).bind fun p18=>
  (bif sW t16 true then (sLd false 1 p18.1 p18.2).bind fun v=>some (v,p18.2) else some (U,p18.2)).bind fun p19=>
  (bif sW t16 true then (sFA 2 t3).bind fun v=>some (v,p19.2) else some (U,p19.2)).bind fun p20=>
  (bif sW t16 true then (sLd false 1 p20.1 p20.2).bind fun v=>some (v,p20.2) else some (U,p20.2)).bind fun p21=>
  (bif sW t16 true then (x1pb call x2c [p19.1,p21.1] p21.2).bind fun p=>some (p.1,p.2) else some (U,p21.2)).bind fun p22=>
  (x1ph t16 p22.1 (B false)).bind fun t23=>
  some (t23,p22.2)
noncomputable def xhb (call:x1p9) (hs:FHs) (u:Nat) (t0 t1:AV) (m:Mem) (fc:Nat):O2:=
 sBox t0 (u,fc,2) m fun t2 m_1=>
  sBox t1 (u,fc+1,3) m_1 fun t3 m_2=>
  (sLd true 5 t2 m_2).bind fun t9=>
  (sLd true 3 t3 m_2).bind fun t10=>
  (x1pb call x5v [t9,t10] m_2).bind fun p11=>
  (sExt p11.1 0).bind fun t12=>
  (sExt p11.1 1).bind fun t13=>
  (sNe t13 (I 0)).bind fun t15=>
  x1pc t15
  (some (AV.tup [(I 0),t13],p11.2))
  ((sLd true 5 t2 p11.2).bind fun t17=>
  (x1pb call x31 [t17] p11.2).bind fun p18=>
  (x1pb call x4f [p18.1,t12] p18.2).bind fun p20=>
  some (AV.tup [p20.1,(I 0)],p20.2))
noncomputable def xhc (call:x1p9) (hs:FHs) (u:Nat) (t0 t1:AV) (m:Mem) (fc:Nat):O2:=
 sBox t0 (u,fc,2) m fun t2 m_1=>
  (sLd true 5 t2 m_1).bind fun t7=>
  (x1pb call x1s [t7] m_1).bind fun p8=>
  (sNe p8.1 (I 0)).bind fun t10=>
  x1pc t10
  (some (AV.tup [(I 0),p8.1],p8.2))
  ((sLd true 5 t2 p8.2).bind fun t12=>
  (x1pb call x1e [t12] p8.2).bind fun p13=>
  (x1pl x16 [(0,2,p13.1)]).bind fun t14=>
  (x1pb call x4r [t14,t1] p13.2).bind fun p16=>
  (sExt p16.1 0).bind fun t17=>
  (sExt p16.1 1).bind fun t18=>
  some (AV.tup [t17,t18],p16.2))
noncomputable def xmj (call:x1p9) (hs:FHs) (u:Nat) (t0 t1:AV) (m:Mem) (fc:Nat):O2:=
 sBox t0 (u,fc,2) m fun t2 m_1=>
  (sLd true 2 t2 m_1).bind fun t9=>
  (x1pb call x4g [t9] m_1).bind fun p10=>
  (sExt p10.1 0).bind fun t11=>
  (sExt p10.1 1).bind fun t12=>
  x1po x16 (u,fc+8,6) p10.2 fun t6 m_2=>
  sSt 2 t6 t11 m_2 fun m_3=>
  (sNe t12 (I 0)).bind fun t14=>
  x1pc t14
  (some (AV.tup [(I 0),t12],m_3))
  ((sLd true 2 t6 m_3).bind fun t16=>
  (x1pb call x4r [t16,t1] m_3).bind fun p18=>
  (sExt p18.1 0).bind fun t19=>
  (sExt p18.1 1).bind fun t20=>
  some (AV.tup [t19,t20],p18.2))
noncomputable def x14 (call:x1p9) (hs:FHs) (u:Nat) (t7:AV) (m:Mem) (fc:Nat):O2:=
 some (AV.tup [t7,(I 0)],m)
noncomputable def x1x (call:x1p9) (hs:FHs) (u:Nat) (rec0:AV→AV→AV→AV→AV→AV→Mem→Nat→O2) (t1 t2 t7 t21 t22 t23:AV) (m:Mem) (fc:Nat):O2:=
 (sAdd t23 (I 1)).bind fun t99=>
  rec0 t1 t2 t7 t21 t22 t99 m (fc+2)
noncomputable def xcg (call:x1p9) (hs:FHs) (u:Nat) (rec0:AV→AV→AV→AV→AV→AV→Mem→Nat→O2) (t1 t2 t7 t8 t10 t11 t12 t21 t22 t23:AV) (m:Mem) (fc:Nat):O2:=
 (sSub t8 (I 1)).bind fun t79=>
  (sIx 1 t7 t79).bind fun t80=>
  (sLd false 1 t80 m).bind fun t81=>
  (sFA 2 t2).bind fun t83=>
  (sLd false 1 t83 m).bind fun t84=>
  (sIx 1 t84 t11).bind fun t86=>
  (sLd false 1 t86 m).bind fun t87=>
  (sFA 2 t2).bind fun t88=>
  (sLd false 1 t88 m).bind fun t89=>
  (sIx 1 t89 t10).bind fun t91=>
  (sLd false 1 t91 m).bind fun t92=>
  (sSub t87 t92).bind fun t93=>
  (x1pb call x2w [t93] m).bind fun p94=>
  (sMul t12 p94.1).bind fun t95=>
  (sAdd t81 t95).bind fun t96=>
  x1pt x1q0 [(0,1,t96)] 1 1 (u,fc+21,97) p94.2 fun t97 m_1=>
  sApp 1 8 (u,fc+22,98) (elems m_1.get 1 t97) t7 m_1 fun t98 m_2=>
  bif (Nat.ble 1 (mkM 0 [t93])&&true)&&(cAp none (tR t80) (mkM 0 [t93])&&true) then
  x1x call hs u rec0 t1 t2 t98 t21 t22 t23 m_2 (fc+24) else none
noncomputable def xhd (call:x1p9) (hs:FHs) (u:Nat) (rec0:AV→AV→AV→AV→AV→AV→Mem→Nat→O2) (t1 t2 t7 t8 t10 t11 t12 t21 t22 t23:AV) (m:Mem) (fc:Nat):O2:=
 (sLt t11 t10).bind fun t73=>
  x1pc t73
  (xcg call hs u rec0 t1 t2 t7 t8 t11 t10 (I (-1)) t21 t22 t23 m (fc+8))
  (xcg call hs u rec0 t1 t2 t7 t8 t10 t11 t12 t21 t22 t23 m (fc+3))
noncomputable def xch (call:x1p9) (hs:FHs) (u:Nat) (rec0:AV→AV→AV→AV→AV→AV→Mem→Nat→O2) (t1 t2 t7 t21 t22 t23:AV) (m:Mem) (fc:Nat):O2:=
 (sIx 1 t21 t23).bind fun t26=>
  (sLd false 1 t26 m).bind fun t27=>
  (sFA 2 t2).bind fun t30=>
  (sLd false 1 t30 m).bind fun t31=>
  (sLen Try.prog x5 t31).bind fun t32=>
  (sSub t32 (I 1)).bind fun t33=>
  (x1pb call xe [t27,(I 0),t33] m).bind fun p34=>
  (sNot p34.1).bind fun t35=>
  x1pc t35
  (some (AV.tup [nilS,(I 6)],p34.2))
  ((sFA 2 t2).bind fun t37=>
  (sLd false 1 t37 p34.2).bind fun t38=>
  (sIx 1 t38 t27).bind fun t40=>
  (sLd false 1 t40 p34.2).bind fun t41=>
  (x1pb call x10 [t41] p34.2).bind fun p42=>
  x1pc p42.1
  (some (AV.tup [nilS,(I 31)],p42.2))
  ((sEq t23 (I 0)).bind fun t45=>
  x1pc t45
  ((sFA 2 t2).bind fun t47=>
  (sLd false 1 t47 p42.2).bind fun t48=>
  (sIx 1 t48 t27).bind fun t50=>
  (sLd false 1 t50 p42.2).bind fun t51=>
  x1pt x1q0 [(0,1,t51)] 1 1 (u,fc+29,52) p42.2 fun t52 m_3=>
  sApp 1 8 (u,fc+30,53) (elems m_3.get 1 t52) t7 m_3 fun t53 m_4=>
  x1x call hs u rec0 t1 t2 t53 t21 t22 t23 m_4 (fc+32))
  ((sFA 1 t2).bind fun t55=>
  (sLd false 1 t55 p42.2).bind fun t56=>
  (sSub t23 (I 1)).bind fun t59=>
  (sIx 1 t1 t59).bind fun t60=>
  (sLd false 1 t60 p42.2).bind fun t61=>
  (x1pb call x9m [t56,t61,t27] p42.2).bind fun p63=>
  (sNot p63.1).bind fun t64=>
  x1pc t64
  (some (AV.tup [nilS,(I 14)],p63.2))
  ((sSub t23 (I 1)).bind fun t67=>
  (sIx 1 t1 t67).bind fun t68=>
  (sLd false 1 t68 p63.2).bind fun t69=>
  xhd call hs u rec0 t1 t2 t7 t23 t69 t27 (I 1) t21 t22 t23 p63.2 (fc+43)))))
noncomputable def xmk (call:x1p9) (hs:FHs) (u:Nat) (rec0:AV→AV→AV→AV→AV→AV→Mem→Nat→O2) (t1 t2 t7 t21 t22 t23:AV) (m:Mem) (fc:Nat):O2:=
 (sLt t23 t22).bind fun t24=>
  x1pc t24
  (xch call hs u rec0 t1 t2 t7 t21 t22 t23 m (fc+1))
  (x14 call hs u t7 m (fc+1))
noncomputable def x74 (call:x1p9) (hs:FHs) (u:Nat):Nat→AV→AV→AV→AV→AV→AV→Mem→Nat→O2
 | 0=>fun _ _ _ _ _ _ _ _=>none
 | n+1=>fun t1 t2 t7 t21 t22 t23 m fc=>xmk call hs u (x74 call hs u n) t1 t2 t7 t21 t22 t23 m fc
noncomputable def xhe (call:x1p9) (hs:FHs) (u:Nat) (t1 t2 t7:AV) (m:Mem) (fc:Nat):O2:=
 (sLen Try.prog x5 t1).bind fun t22=>
  x74 call hs u NN t1 t2 t7 t1 t22 (I 0) m (fc+3)
noncomputable def xml (call:x1p9) (hs:FHs) (u:Nat) (t0 t1:AV) (m:Mem) (fc:Nat):O2:=
 sBox t0 (u,fc,2) m fun t2 m_5=>
  (sLd true 3 t2 m_5).bind fun t13=>
  (x1pb call x9l [t13,(AV.clo x33 [])] m_5).bind fun p14=>
  (sNe p14.1 (I 0)).bind fun t16=>
  x1pc t16
  (some (AV.tup [nilS,p14.1],p14.2))
  ((sLen Try.prog x5 t1).bind fun t19=>
  (sGt t19 (I 200)).bind fun t20=>
  x1pc t20
  (some (AV.tup [nilS,(I 8)],p14.2))
  (xhe call hs u t1 t2 nilS p14.2 (fc+12)))
noncomputable def xhf (call:x1p9) (hs:FHs) (u:Nat) (t0:AV) (m:Mem) (fc:Nat):O2:=
 sBox t0 (u,fc,1) m fun t1 m_1=>
  x1po xp (u,fc+1,2) m_1 fun t2 m_2=>
  (sFA 0 t1).bind fun t3=>
  (sLd false 1 t3 m_2).bind fun t4=>
  (sFA 1 t1).bind fun t5=>
  (sLd false 1 t5 m_2).bind fun t6=>
  (sFA 2 t1).bind fun t7=>
  (sLd false 1 t7 m_2).bind fun t8=>
  (x1pb call xf [t8] m_2).bind fun p9=>
  (x1pl xp [(0,1,t4),(1,1,t6),(2,1,p9.1)]).bind fun t10=>
  sSt 3 t2 t10 p9.2 fun m_3=>
  bif (Nat.ble 1 (mkM 0 [t8])&&true)&&(cAp none (tR t3) (mkM 0 [t8])&&(cAp none (tR t5) (mkM 0 [t8])&&true)) then
  (sLdP true 3 t2 m_3).bind fun r0=>
  some (r0,m_3) else none
noncomputable def xmm (call:x1p9) (hs:FHs) (u:Nat) (t0:AV) (m:Mem) (fc:Nat):O2:=
 sBox t0 (u,fc,1) m fun t1 m_1=>
  (sFA 0 t1).bind fun t4=>
  (sLd false 1 t4 m_1).bind fun t5=>
  (sFA 1 t1).bind fun t6=>
  (sLd false 1 t6 m_1).bind fun t7=>
  (sFA 2 t1).bind fun t8=>
  (sLd false 1 t8 m_1).bind fun t9=>
  (sLen Try.prog x5 t9).bind fun t10=>
  (x1pb call x4i [t5,t7,t10] m_1).bind fun p11=>
  (sNe p11.1 (I 0)).bind fun t13=>
  x1pc t13
  (some (p11.1,p11.2))
  ((sFA 2 t1).bind fun t15=>
  (sLd false 1 t15 p11.2).bind fun t16=>
  (x1pb call x4j [t16] p11.2).bind fun p17=>
  some (p17.1,p17.2))
noncomputable def x2k (call:x1p9) (hs:FHs) (u:Nat) (t6:AV) (m:Mem) (fc:Nat):O2:=
 some (AV.tup [t6,(I 0)],m)
noncomputable def xci (call:x1p9) (hs:FHs) (u:Nat) (rec0:AV→AV→AV→AV→Mem→Nat→O2) (t1 t2 t6 t7:AV) (m:Mem) (fc:Nat):O2:=
 (sAdd t7 (I 1)).bind fun t17=>
  rec0 t1 t2 t6 t17 m (fc+3)
noncomputable def xhg (call:x1p9) (hs:FHs) (u:Nat) (rec0:AV→AV→AV→AV→Mem→Nat→O2) (t1 t2 t6 t7:AV) (m:Mem) (fc:Nat):O2:=
 (sIx 1 t1 t7).bind fun t20=>
  (sLd false 1 t20 m).bind fun t21=>
  (sFA 2 t2).bind fun t22=>
  (sLd false 1 t22 m).bind fun t23=>
  (sLen Try.prog x5 t23).bind fun t24=>
  (sSub t24 (I 1)).bind fun t25=>
  (x1pb call xb [t21,(I 0),t25] m).bind fun p26=>
  (sNot p26.1).bind fun t27=>
  x1pc t27
  (some (AV.tup [nilS,(I 6)],p26.2))
  ((sFA 2 t2).bind fun t28=>
  (sLd false 1 t28 p26.2).bind fun t29=>
  (sIx 1 t1 t7).bind fun t32=>
  (sLd false 1 t32 p26.2).bind fun t33=>
  (sIx 1 t29 t33).bind fun t34=>
  (sLd false 1 t34 p26.2).bind fun t35=>
  (sEq t35 (I 1000000000000)).bind fun t37=>
  x1pc t37
  (some (AV.tup [nilS,(I 31)],p26.2))
  ((sEq t7 (I 0)).bind fun t39=>
  x1pc t39
  (x1pt x1q0 [(0,1,t35)] 1 1 (u,fc+25,42) p26.2 fun t42 m_1=>
  sApp 1 8 (u,fc+26,43) (elems m_1.get 1 t42) t6 m_1 fun t43 m_2=>
  xci call hs u rec0 t1 t2 t43 t7 m_2 (fc+28))
  ((sLd true 3 t2 p26.2).bind fun t44=>
  (sSub t7 (I 1)).bind fun t47=>
  (sIx 1 t1 t47).bind fun t48=>
  (sLd false 1 t48 p26.2).bind fun t49=>
  (sIx 1 t1 t7).bind fun t52=>
  (sLd false 1 t52 p26.2).bind fun t53=>
  (x1pb call x9n [t44,t49,t53] p26.2).bind fun p54=>
  (sNot p54.1).bind fun t55=>
  x1pc t55
  (some (AV.tup [nilS,(I 14)],p54.2))
  ((sSub t7 (I 1)).bind fun t59=>
  (sIx 1 t6 t59).bind fun t60=>
  (sLd false 1 t60 p54.2).bind fun t61=>
  (sLd true 3 t2 p54.2).bind fun t62=>
  (sSub t7 (I 1)).bind fun t65=>
  (sIx 1 t1 t65).bind fun t66=>
  (sLd false 1 t66 p54.2).bind fun t67=>
  (sIx 1 t1 t7).bind fun t70=>
  (sLd false 1 t70 p54.2).bind fun t71=>
  (x1pb call x6r [t62,t67,t71] p54.2).bind fun p72=>
  (sAdd t61 p72.1).bind fun t73=>
  x1pt x1q0 [(0,1,t73)] 1 1 (u,fc+53,74) p72.2 fun t74 m_3=>
  sApp 1 8 (u,fc+54,75) (elems m_3.get 1 t74) t6 m_3 fun t75 m_4=>
  bif (Nat.ble 1 (mkM 0 [t62,t67,t71])&&true)&&(cAp none (tR t60) (mkM 0 [t62,t67,t71])&&true) then
  xci call hs u rec0 t1 t2 t75 t7 m_4 (fc+56) else none))))
noncomputable def xmn (call:x1p9) (hs:FHs) (u:Nat) (rec0:AV→AV→AV→AV→Mem→Nat→O2) (t1 t2 t6 t7:AV) (m:Mem) (fc:Nat):O2:=
 (sLen Try.prog x5 t1).bind fun t14=>
  (sLt t7 t14).bind fun t15=>
  x1pc t15
  (xhg call hs u rec0 t1 t2 t6 t7 m (fc+4))
  (x2k call hs u t6 m (fc+4))
noncomputable def x75 (call:x1p9) (hs:FHs) (u:Nat):Nat→AV→AV→AV→AV→Mem→Nat→O2
 | 0=>fun _ _ _ _ _ _=>none
 | n+1=>fun t1 t2 t6 t7 m fc=>xmn call hs u (x75 call hs u n) t1 t2 t6 t7 m fc
noncomputable def xhh (call:x1p9) (hs:FHs) (u:Nat) (t1 t2 t6:AV) (m:Mem) (fc:Nat):O2:=
 x75 call hs u NN t1 t2 t6 (I 0) m (fc+1)
noncomputable def xmo (call:x1p9) (hs:FHs) (u:Nat) (t0 t1:AV) (m:Mem) (fc:Nat):O2:=
 sBox t0 (u,fc,2) m fun t2 m_5=>
  (sLen Try.prog x5 t1).bind fun t10=>
  (sGt t10 (I 200)).bind fun t11=>
  x1pc t11
  (some (AV.tup [nilS,(I 8)],m_5))
  (xhh call hs u t1 t2 nilS m_5 (fc+7))
noncomputable def x1y (call:x1p9) (hs:FHs) (u:Nat) (t6:AV) (m:Mem) (fc:Nat):O2:=
 some (AV.tup [t6,(I 0)],m)
noncomputable def x76 (call:x1p9) (hs:FHs) (u:Nat) (rec0:AV→AV→AV→AV→Mem→Nat→O2) (t2 t3 t6 t7:AV) (m:Mem) (fc:Nat):O2:=
 (sAdd t7 (I 1)).bind fun t40=>
  rec0 t2 t3 t6 t40 m (fc+3)
noncomputable def xcj (call:x1p9) (hs:FHs) (u:Nat) (rec0:AV→AV→AV→AV→Mem→Nat→O2) (t2 t3 t6 t7:AV) (m:Mem) (fc:Nat):O2:=
 (sFA 0 t2).bind fun t41=>
  (sFA 2 t41).bind fun t42=>
  (sLd false 1 t42 m).bind fun t43=>
  (sIx 1 t43 t7).bind fun t45=>
  (sLd false 1 t45 m).bind fun t46=>
  (sFA 2 t3).bind fun t47=>
  (sLd false 1 t47 m).bind fun t48=>
  (sIx 1 t48 t7).bind fun t50=>
  (sLd false 1 t50 m).bind fun t51=>
  (sEq t46 (I 1000000000000)).bind fun t53=>
  (sEq t51 (I 1000000000000)).bind fun t55=>
  (sBin Try.prog .neq xck (.tmp 53) (.tmp 55) t53 t55).bind fun t56=>
  x1pc t56
  (some (AV.tup [nilS,(I 31)],m))
  ((sEq t46 (I 1000000000000)).bind fun t58=>
  x1pc t58
  (x1pt x1q0 [(0,1,(I 0))] 1 1 (u,fc+21,60) m fun t60 m_1=>
  sApp 1 8 (u,fc+22,61) (elems m_1.get 1 t60) t6 m_1 fun t61 m_2=>
  x76 call hs u rec0 t2 t3 t61 t7 m_2 (fc+24))
  ((x1pb call x5y [t51] m).bind fun p63=>
  (sNot p63.1).bind fun t64=>
  x1pc t64
  (some (AV.tup [nilS,(I 2)],p63.2))
  ((sSub t51 t46).bind fun t67=>
  (x1pb call x4s [t67,(I 4096)] p63.2).bind fun p68=>
  (sNe p68.1 (I 0)).bind fun t69=>
  x1pc t69
  (some (AV.tup [nilS,(I 27)],p68.2))
  ((sSub t51 t46).bind fun t73=>
  (sQuo t73 (I 4096)).bind fun t74=>
  x1pt x1q0 [(0,1,t74)] 1 1 (u,fc+33,75) p68.2 fun t75 m_3=>
  sApp 1 8 (u,fc+34,76) (elems m_3.get 1 t75) t6 m_3 fun t76 m_4=>
  x76 call hs u rec0 t2 t3 t76 t7 m_4 (fc+36)))))
noncomputable def xcl (call:x1p9) (hs:FHs) (u:Nat) (rec0:AV→AV→AV→AV→Mem→Nat→O2) (t2 t3 t6 t7:AV) (m:Mem) (fc:Nat):O2:=
 (sFA 2 t3).bind fun t35=>
  (sLd false 1 t35 m).bind fun t36=>
  (sLen Try.prog x5 t36).bind fun t37=>
  (sLt t7 t37).bind fun t38=>
  x1pc t38
  (xcj call hs u rec0 t2 t3 t6 t7 m (fc+5))
  (x1y call hs u t6 m (fc+5))
noncomputable def x3k (call:x1p9) (hs:FHs) (u:Nat):Nat→AV→AV→AV→AV→Mem→Nat→O2
 | 0=>fun _ _ _ _ _ _=>none
 | n+1=>fun t2 t3 t6 t7 m fc=>xcl call hs u (x3k call hs u n) t2 t3 t6 t7 m fc
noncomputable def xcm (call:x1p9) (hs:FHs) (u:Nat) (t2 t3 t6:AV) (m:Mem) (fc:Nat):O2:=
 x3k call hs u NN t2 t3 t6 (I 0) m (fc+1)
noncomputable def xcn (call:x1p9) (hs:FHs) (u:Nat) (t0 t1:AV) (m:Mem) (fc:Nat):O2:=
 sBox t0 (u,fc,2) m fun t2 m_5=>
  sBox t1 (u,fc+1,3) m_5 fun t3 m_6=>
  (sFA 0 t3).bind fun t10=>
  (sLd false 1 t10 m_6).bind fun t11=>
  (sFA 0 t2).bind fun t12=>
  (sFA 0 t12).bind fun t13=>
  (sLd false 1 t13 m_6).bind fun t14=>
  (sNe t11 t14).bind fun t15=>
  (bif sW t15 false then (sFA 1 t3).bind fun v=>some (v,m_6) else some (U,m_6)).bind fun p17=>
  (bif sW t15 false then (sLd false 1 p17.1 p17.2).bind fun v=>some (v,p17.2) else some (U,p17.2)).bind fun p18=>
  (bif sW t15 false then (sFA 0 t2).bind fun v=>some (v,p18.2) else some (U,p18.2)).bind fun p19=>
  (bif sW t15 false then (sFA 1 p19.1).bind fun v=>some (v,p19.2) else some (U,p19.2)).bind fun p20=>
  (bif sW t15 false then (sLd false 1 p20.1 p20.2).bind fun v=>some (v,p20.2) else some (U,p20.2)).bind fun p21=>
  (bif sW t15 false then (sNe p18.1 p21.1).bind fun v=>some (v,p21.2) else some (U,p21.2)).bind fun p22=>
  (x1ph t15 (B true) p22.1).bind fun t23=>
  (bif sW t23 false then (sFA 2 t3).bind fun v=>some (v,p22.2) else some (U,p22.2)).bind fun p25=>
  (bif sW t23 false then (sLd false 1 p25.1 p25.2).bind fun v=>some (v,p25.2) else some (U,p25.2)).bind fun p26=>
  (bif sW t23 false then (sLen Try.prog x5 p26.1).bind fun v=>some (v,p26.2) else some (U,p26.2)).bind fun p27=>
  (bif sW t23 false then (sFA 0 t2).bind fun v=>some (v,p27.2) else some (U,p27.2)).bind fun p28=>
  (bif sW t23 false then (sFA 2 p28.1).bind fun v=>some (v,p28.2) else some (U,p28.2)).bind fun p29=>
  (bif sW t23 false then (sLd false 1 p29.1 p29.2).bind fun v=>some (v,p29.2) else some (U,p29.2)).bind fun p30=>
  (bif sW t23 false then (sLen Try.prog x5 p30.1).bind fun v=>some (v,p30.2) else some (U,p30.2)).bind fun p31=>
  (bif sW t23 false then (sNe p27.1 p31.1).bind fun v=>some (v,p31.2) else some (U,p31.2)).bind fun p32=>
  (x1ph t23 (B true) p32.1).bind fun t33=>
  x1pc t33
  (some (AV.tup [nilS,(I 10)],p32.2))
  (xcm call hs u t2 t3 nilS p32.2 (fc+29))
noncomputable def x57 (call:x1p9) (hs:FHs) (u:Nat) (t5:AV) (m:Mem) (fc:Nat):O2:=
 some (t5,m)
noncomputable def xco (call:x1p9) (hs:FHs) (u:Nat) (rec0:AV→AV→AV→AV→Mem→Nat→O2) (t1 t2 t5 t6:AV) (m:Mem) (fc:Nat):O2:=
 (sFA 1 t2).bind fun t8=>
  (sLd false 1 t8 m).bind fun t9=>
  (sLen Try.prog x7 t9).bind fun t10=>
  (sLt t6 t10).bind fun t11=>
  x1pc t11
  ((sFA 1 t2).bind fun t15=>
  (sLd false 1 t15 m).bind fun t16=>
  (sIx 4 t16 t6).bind fun t18=>
  (sFA 3 t18).bind fun t19=>
  (sLd false 1 t19 m).bind fun t20=>
  (sFA 1 t2).bind fun t21=>
  (sLd false 1 t21 m).bind fun t22=>
  (sIx 4 t22 t6).bind fun t24=>
  (sLd true 4 t24 m).bind fun t25=>
  (x1pb call x5z [t25,t1] m).bind fun p27=>
  (x1pb call x2d [p27.1] p27.2).bind fun p28=>
  (sMul t20 p28.1).bind fun t29=>
  (sAdd t5 t29).bind fun t30=>
  bif (Nat.ble 1 (mkM 0 [t25,t1])&&(Nat.ble 1 (mkM 0 [p27.1])&&true))&&(cAp none (tR t15) (mkM 0 [t25,t1])&&(cAp none (tR t19) (mkM 0 [t25,t1])&&(cAp none (tR t15) (mkM 0 [p27.1])&&(cAp none (tR t19) (mkM 0 [p27.1])&&true)))) then
  (sAdd t6 (I 1)).bind fun t13=>
  rec0 t1 t2 t30 t13 p28.2 (fc+26) else none)
  (x57 call hs u t5 m (fc+5))
noncomputable def x3l (call:x1p9) (hs:FHs) (u:Nat):Nat→AV→AV→AV→AV→Mem→Nat→O2
 | 0=>fun _ _ _ _ _ _=>none
 | n+1=>fun t1 t2 t5 t6 m fc=>xco call hs u (x3l call hs u n) t1 t2 t5 t6 m fc
noncomputable def xcp (call:x1p9) (hs:FHs) (u:Nat) (t1 t2 t5:AV) (m:Mem) (fc:Nat):O2:=
 x3l call hs u NN t1 t2 t5 (I 0) m (fc+1)
noncomputable def xhi (call:x1p9) (hs:FHs) (u:Nat) (t0 t1:AV) (m:Mem) (fc:Nat):O2:=
 sBox t0 (u,fc,2) m fun t2 m_1=>
  xcp call hs u t1 t2 (I 0) m_1 (fc+3)
noncomputable def xmp (call:x1p9) (hs:FHs) (u:Nat) (t0:AV) (m:Mem) (fc:Nat):O2:=
 sBox t0 (u,fc,1) m fun t1 m_1=>
  (sLd true 5 t1 m_1).bind fun t7=>
  (x1pb call x1s [t7] m_1).bind fun p8=>
  (sNe p8.1 (I 0)).bind fun t10=>
  x1pc t10
  (some (AV.tup [nilS,p8.1],p8.2))
  ((sLd true 5 t1 p8.2).bind fun t12=>
  (x1pb call x1e [t12] p8.2).bind fun p13=>
  (x1pl x16 [(0,2,p13.1)]).bind fun t14=>
  x1po x16 (u,fc+11,5) p13.2 fun t5 m_2=>
  sSt 2 t5 t14 m_2 fun m_3=>
  (sLd true 2 t5 m_3).bind fun t15=>
  (x1pb call x9h [t15] m_3).bind fun p16=>
  x1po x18 (u,fc+15,6) p16.2 fun t6 m_4=>
  sSt 1 t6 p16.1 m_4 fun m_5=>
  (sLd true 2 t5 m_5).bind fun t17=>
  (call hs x9o [t17,(AV.clo x9s [t6])] m_5).bind fun p19=>
  some (AV.tup [p19.1,(I 0)],p19.2))
noncomputable def xmq (call:x1p9) (hs:FHs) (u:Nat) (t0:AV) (m:Mem) (fc:Nat):O2:=
 x1po xo (u,fc,2) m fun t2 m_1=>
  (x1pl x6 [(0,1,(I 0)),(1,1,(I 1)),(2,1,(I 1)),(3,1,(I 5))]).bind fun t3=>
  (x1pl x6 [(0,1,(I 1)),(1,1,(I 2)),(3,1,(I 3))]).bind fun t4=>
  (x1pl x6 [(0,1,(I 2)),(1,1,(I 0)),(3,1,t0)]).bind fun t6=>
  x1pt x6 [(0,4,t3),(4,4,t4),(8,4,t6)] 3 4 (u,fc+5,7) m_1 fun t7 m_2=>
  (x1pl xo [(0,1,(I 3)),(1,1,t7)]).bind fun t8=>
  sSt 2 t2 t8 m_2 fun m_3=>
  (sLdP true 2 t2 m_3).bind fun r0=>
  some (r0,m_3)
noncomputable def xcq (call:x1p9) (hs:FHs) (u:Nat) (t2 t3:AV) (m:Mem) (fc:Nat):O2:=
 (sLd true 5 t3 m).bind fun t19=>
  sSt 5 t2 t19 m fun m_1=>
  (sLdP true 5 t2 m_1).bind fun r0=>
  some (r0,m_1)
noncomputable def xhj (call:x1p9) (hs:FHs) (u:Nat) (t0 t2 t3:AV) (m:Mem) (fc:Nat):O2:=
 (sGt t0 (I 0)).bind fun t10=>
  x1pc t10
  (x1pt x1q0 [(0,1,t0),(1,1,t0)] 2 1 (u,fc+4,13) m fun t13 m_2=>
  x1pt x1q0 [(0,1,t0),(1,1,t0)] 2 1 (u,fc+7,16) m_2 fun t16 m_3=>
  (sFA 3 t3).bind fun t17=>
  sSt 1 t17 t13 m_3 fun m_4=>
  (sFA 4 t3).bind fun t18=>
  sSt 1 t18 t16 m_4 fun m_5=>
  xcq call hs u t2 t3 m_5 (fc+12))
  (xcq call hs u t2 t3 m (fc+2))
noncomputable def xmr (call:x1p9) (hs:FHs) (u:Nat) (t0:AV) (m:Mem) (fc:Nat):O2:=
 x1po x6z (u,fc,2) m fun t2 m_6=>
  x1pt x1q0 [(0,1,(I 0)),(1,1,(I 1500)),(2,1,(I (-1500))),(3,1,(I (-1096)))] 4 1 (u,fc+1,4) m_6 fun t4 m_7=>
  (x1pl xp [(0,1,(I 2)),(1,1,(I 2)),(2,1,t4)]).bind fun t5=>
  x1pt x1q0 [(0,1,(I 5)),(1,1,(I 4))] 2 1 (u,fc+3,6) m_7 fun t6 m_8=>
  x1pt x1q0 [(0,1,(I 3)),(1,1,(I 2))] 2 1 (u,fc+4,7) m_8 fun t7 m_9=>
  (x1pl x6z [(0,3,t5),(3,1,t6),(4,1,t7)]).bind fun t8=>
  x1po x6z (u,fc+6,3) m_9 fun t3 m_10=>
  sSt 5 t3 t8 m_10 fun m_11=>
  xhj call hs u t0 t2 t3 m_11 (fc+8)
noncomputable def xhk (call:x1p9) (hs:FHs) (u:Nat) (t0:AV) (m:Mem) (fc:Nat):O2:=
 (sNeg t0).bind fun t5=>
  (sMax t0 t5).bind fun t6=>
  some (t6,m)
noncomputable def xms (call:x1p9) (hs:FHs) (u:Nat) (t0:AV) (m:Mem) (fc:Nat):O2:=
 sBox t0 (u,fc,1) m fun t1 m_1=>
  x1po x16 (u,fc+1,2) m_1 fun t2 m_2=>
  (sLd true 2 t1 m_2).bind fun t7=>
  (x1pb call x9t [t7] m_2).bind fun p8=>
  (sExt p8.1 0).bind fun t9=>
  (sExt p8.1 1).bind fun t10=>
  (sLd true 2 t1 p8.2).bind fun t11=>
  (x1pl x16 [(0,2,t11)]).bind fun t12=>
  sSt 2 t2 t12 p8.2 fun m_3=>
  (sLdP true 2 t2 m_3).bind fun r0=>
  some (AV.tup [r0,t10],m_3)
noncomputable def xu (call:x1p9) (hs:FHs) (u:Nat) (t3:AV) (m:Mem) (fc:Nat):O2:=
 some (t3,m)
noncomputable def x1z (call:x1p9) (hs:FHs) (u:Nat) (rec0:AV→AV→AV→AV→AV→Mem→Nat→O2) (t3 t6 t26 t27 t28:AV) (m:Mem) (fc:Nat):O2:=
 (sAdd t28 (I 1)).bind fun t62=>
  rec0 t3 t6 t26 t27 t62 m (fc+2)
noncomputable def x58 (call:x1p9) (hs:FHs) (u:Nat) (rec0:AV→AV→AV→AV→AV→Mem→Nat→O2) (t3 t6 t7 t8 t26 t27 t28:AV) (m:Mem) (fc:Nat):O2:=
 (sNil t3).bind fun t51=>
  (sFA 3 t51).bind fun t52=>
  (sLd false 1 t52 m).bind fun t53=>
  (sIx 1 t53 t7).bind fun t55=>
  (sLd false 1 t55 m).bind fun t56=>
  (x1uk Try.prog x59 t6 t8 false m).bind fun t59=>
  (sSub t56 t59).bind fun t60=>
  (sIx 1 t53 t7).bind fun t61=>
  sSt 1 t61 t60 m fun m_1=>
  x1z call hs u rec0 t3 t6 t26 t27 t28 m_1 (fc+13)
noncomputable def xcr (call:x1p9) (hs:FHs) (u:Nat) (rec0:AV→AV→AV→AV→AV→Mem→Nat→O2) (t3 t6 t7 t8 t26 t27 t28:AV) (m:Mem) (fc:Nat):O2:=
 (x1uk Try.prog x59 t6 t8 true m).bind fun t36=>
  (sExt t36 0).bind fun t37=>
  (sExt t36 1).bind fun t38=>
  (sNot t38).bind fun t40=>
  x1pc t40
  ((sNil t3).bind fun t44=>
  (sFA 3 t44).bind fun t45=>
  (sLd false 1 t45 m).bind fun t46=>
  (sIx 1 t46 t7).bind fun t48=>
  (sLd false 1 t48 m).bind fun t49=>
  x1w3 Try.prog x59 t6 t8 t49 m fun m_2=>
  x58 call hs u rec0 t3 t6 t7 t8 t26 t27 t28 m_2 (fc+20))
  (x58 call hs u rec0 t3 t6 t7 t8 t26 t27 t28 m (fc+10))
noncomputable def xai (call:x1p9) (hs:FHs) (u:Nat) (rec0:AV→AV→AV→AV→AV→Mem→Nat→O2) (t3 t6 t26 t27 t28:AV) (m:Mem) (fc:Nat):O2:=
 (sIx 1 t26 t28).bind fun t31=>
  (sLd false 1 t31 m).bind fun t32=>
  xcr call hs u rec0 t3 t6 t28 t32 t26 t27 t28 m (fc+5)
noncomputable def xcs (call:x1p9) (hs:FHs) (u:Nat) (rec0:AV→AV→AV→AV→AV→Mem→Nat→O2) (t3 t6 t26 t27 t28:AV) (m:Mem) (fc:Nat):O2:=
 (sLt t28 t27).bind fun t29=>
  x1pc t29
  (xai call hs u rec0 t3 t6 t26 t27 t28 m (fc+1))
  (xu call hs u t3 m (fc+1))
noncomputable def x19 (call:x1p9) (hs:FHs) (u:Nat):Nat→AV→AV→AV→AV→AV→Mem→Nat→O2
 | 0=>fun _ _ _ _ _ _ _=>none
 | n+1=>fun t3 t6 t26 t27 t28 m fc=>xcs call hs u (x19 call hs u n) t3 t6 t26 t27 t28 m fc
noncomputable def xct (call:x1p9) (hs:FHs) (u:Nat) (t3 t5 t6:AV) (m:Mem) (fc:Nat):O2:=
 (sLen Try.prog x5 t5).bind fun t27=>
  x19 call hs u NN t3 t6 t5 t27 (I 0) m (fc+3)
noncomputable def x3m (call:x1p9) (hs:FHs) (u:Nat) (t1 t3:AV) (m:Mem) (fc:Nat):O2:=
 (sLd true 2 t1 m).bind fun t23=>
  (x1pb call x4o [t23] m).bind fun p24=>
  sMkMap (u,fc+3,25) p24.2 fun t25 m_3=>
  xct call hs u t3 p24.1 t25 m_3 (fc+5)
noncomputable def xhl (call:x1p9) (hs:FHs) (u:Nat) (rec1:AV→AV→Mem→Nat→O2) (t1 t3:AV) (m:Mem) (fc:Nat):O2:=
 (sNil t3).bind fun t14=>
  (sFA 4 t14).bind fun t15=>
  (sLd false 1 t15 m).bind fun t16=>
  (call hs x29 [t16,(AV.clo x2a [])] m).bind fun p17=>
  (sLt p17.1 (I 0)).bind fun t19=>
  x1pc t19
  (x3m call hs u t1 t3 p17.2 (fc+8))
  ((call hs x4u [t3,p17.1] p17.2).bind fun p22=>
  rec1 t1 t3 p22.2 (fc+11))
noncomputable def x1h (call:x1p9) (hs:FHs) (u:Nat):Nat→AV→AV→Mem→Nat→O2
 | 0=>fun _ _ _ _=>none
 | n+1=>fun t1 t3 m fc=>xhl call hs u (x1h call hs u n) t1 t3 m fc
noncomputable def xcu (call:x1p9) (hs:FHs) (u:Nat) (t0:AV) (m:Mem) (fc:Nat):O2:=
 sBox t0 (u,fc,1) m fun t1 m_4=>
  (sLd true 2 t1 m_4).bind fun t11=>
  (x1s9 call x4t [t11] m_4).bind fun p12=>
  x1h call hs u NN t1 p12.1 p12.2 (fc+5)
noncomputable def x5a (call:x1p9) (hs:FHs) (u:Nat) (t5:AV) (m:Mem) (fc:Nat):O2:=
 some (t5,m)
noncomputable def xcv (call:x1p9) (hs:FHs) (u:Nat) (rec0:AV→AV→AV→AV→AV→Mem→Nat→O2) (t1 t5 t10 t11 t12:AV) (m:Mem) (fc:Nat):O2:=
 (sLt t12 t11).bind fun t13=>
  x1pc t13
  ((sIx 4 t10 t12).bind fun t14=>
  (sLd true 4 t14 m).bind fun t15=>
  x1po x6 (u,fc+3,7) m fun t7 m_1=>
  sSt 4 t7 t15 m_1 fun m_2=>
  (sFA 3 t7).bind fun t17=>
  (sLd false 1 t17 m_2).bind fun t18=>
  (sLd true 4 t7 m_2).bind fun t19=>
  (x1pb call x5n [t19,t1] m_2).bind fun p21=>
  (x1pb call x2x [p21.1] p21.2).bind fun p22=>
  (sMul t18 p22.1).bind fun t23=>
  (sAdd t5 t23).bind fun t24=>
  bif (Nat.ble 1 (mkM 0 [t19,t1])&&(Nat.ble 1 (mkM 0 [p21.1])&&true))&&(cAp none (tR t17) (mkM 0 [t19,t1])&&(cAp none (tR t17) (mkM 0 [p21.1])&&true)) then
  (sAdd t12 (I 1)).bind fun t25=>
  rec0 t1 t24 t10 t11 t25 p22.2 (fc+17) else none)
  (x5a call hs u t5 m (fc+1))
noncomputable def x3n (call:x1p9) (hs:FHs) (u:Nat):Nat→AV→AV→AV→AV→AV→Mem→Nat→O2
 | 0=>fun _ _ _ _ _ _ _=>none
 | n+1=>fun t1 t5 t10 t11 t12 m fc=>xcv call hs u (x3n call hs u n) t1 t5 t10 t11 t12 m fc
noncomputable def xcw (call:x1p9) (hs:FHs) (u:Nat) (t1 t2 t5:AV) (m:Mem) (fc:Nat):O2:=
 (sFA 0 t2).bind fun t8=>
  (sFA 1 t8).bind fun t9=>
  (sLd false 1 t9 m).bind fun t10=>
  (sLen Try.prog x7 t10).bind fun t11=>
  x3n call hs u NN t1 t5 t10 t11 (I 0) m (fc+5)
noncomputable def xhm (call:x1p9) (hs:FHs) (u:Nat) (t0 t1:AV) (m:Mem) (fc:Nat):O2:=
 sBox t0 (u,fc,2) m fun t2 m_3=>
  xcw call hs u t1 t2 (I 0) m_3 (fc+3)
noncomputable def x6b (call:x1p9) (hs:FHs) (u:Nat) (m:Mem) (fc:Nat):O2:=
 some (AV.tup [(I 0),(I 0)],m)
noncomputable def xmt (call:x1p9) (hs:FHs) (u:Nat) (rec0:AV→AV→Mem→Nat→O2) (t1 t4:AV) (m:Mem) (fc:Nat):O2:=
 (sFA 1 t1).bind fun t15=>
  (sLd false 1 t15 m).bind fun t16=>
  (sLen Try.prog x7 t16).bind fun t17=>
  (sLt t4 t17).bind fun t18=>
  x1pc t18
  ((sFA 1 t1).bind fun t21=>
  (sLd false 1 t21 m).bind fun t22=>
  (sIx 4 t22 t4).bind fun t24=>
  (sLd true 4 t24 m).bind fun t25=>
  x1po x6 (u,fc+10,5) m fun t5 m_1=>
  sSt 4 t5 t25 m_1 fun m_2=>
  (sFA 0 t5).bind fun t26=>
  (sLd false 1 t26 m_2).bind fun t27=>
  (sFA 0 t1).bind fun t28=>
  (sLd false 1 t28 m_2).bind fun t29=>
  (sSub t29 (I 1)).bind fun t30=>
  (x1pb call xb [t27,(I 0),t30] m_2).bind fun p31=>
  (sNot p31.1).bind fun t32=>
  (bif sW t32 false then (sFA 1 t5).bind fun v=>some (v,p31.2) else some (U,p31.2)).bind fun p34=>
  (bif sW t32 false then (sLd false 1 p34.1 p34.2).bind fun v=>some (v,p34.2) else some (U,p34.2)).bind fun p35=>
  (bif sW t32 false then (sFA 0 t1).bind fun v=>some (v,p35.2) else some (U,p35.2)).bind fun p36=>
  (bif sW t32 false then (sLd false 1 p36.1 p36.2).bind fun v=>some (v,p36.2) else some (U,p36.2)).bind fun p37=>
  (bif sW t32 false then (sSub p37.1 (I 1)).bind fun v=>some (v,p37.2) else some (U,p37.2)).bind fun p38=>
  (bif sW t32 false then (x1pb call xb [p35.1,(I 0),p38.1] p38.2).bind fun p=>some (p.1,p.2) else some (U,p38.2)).bind fun p39=>
  (bif sW t32 false then (sNot p39.1).bind fun v=>some (v,p39.2) else some (U,p39.2)).bind fun p40=>
  (x1ph t32 (B true) p40.1).bind fun t41=>
  x1pc t41
  (some (AV.tup [t4,(I 6)],p40.2))
  ((sFA 0 t5).bind fun t43=>
  (sLd false 1 t43 p40.2).bind fun t44=>
  (sFA 1 t5).bind fun t45=>
  (sLd false 1 t45 p40.2).bind fun t46=>
  (sEq t44 t46).bind fun t47=>
  x1pc t47
  (some (AV.tup [t4,(I 3)],p40.2))
  ((sFA 2 t5).bind fun t49=>
  (sLd false 1 t49 p40.2).bind fun t50=>
  (x1pb call xb [t50,(I (-1000)),(I 1000)] p40.2).bind fun p51=>
  (sNot p51.1).bind fun t52=>
  (bif sW t52 false then (sFA 3 t5).bind fun v=>some (v,p51.2) else some (U,p51.2)).bind fun p54=>
  (bif sW t52 false then (sLd false 1 p54.1 p54.2).bind fun v=>some (v,p54.2) else some (U,p54.2)).bind fun p55=>
  (bif sW t52 false then (x1pb call xb [p55.1,(I 0),(I 1000)] p55.2).bind fun p=>some (p.1,p.2) else some (U,p55.2)).bind fun p56=>
  (bif sW t52 false then (sNot p56.1).bind fun v=>some (v,p56.2) else some (U,p56.2)).bind fun p57=>
  (x1ph t52 (B true) p57.1).bind fun t58=>
  x1pc t58
  (some (AV.tup [t4,(I 2)],p57.2))
  ((sAdd t4 (I 1)).bind fun t20=>
  rec0 t1 t20 p57.2 (fc+46)))))
  (x6b call hs u m (fc+5))
noncomputable def x77 (call:x1p9) (hs:FHs) (u:Nat):Nat→AV→AV→Mem→Nat→O2
 | 0=>fun _ _ _ _=>none
 | n+1=>fun t1 t4 m fc=>xmt call hs u (x77 call hs u n) t1 t4 m fc
noncomputable def xhn (call:x1p9) (hs:FHs) (u:Nat) (t1:AV) (m:Mem) (fc:Nat):O2:=
 x77 call hs u NN t1 (I 0) m (fc+1)
noncomputable def xmu (call:x1p9) (hs:FHs) (u:Nat) (t0:AV) (m:Mem) (fc:Nat):O2:=
 sBox t0 (u,fc,1) m fun t1 m_3=>
  (sFA 0 t1).bind fun t6=>
  (sLd false 1 t6 m_3).bind fun t7=>
  (x1pb call xb [t7,(I 0),(I 200)] m_3).bind fun p8=>
  (sNot p8.1).bind fun t9=>
  x1pc t9
  (some (AV.tup [(I 0),(I 2)],p8.2))
  ((sFA 1 t1).bind fun t10=>
  (sLd false 1 t10 p8.2).bind fun t11=>
  (sLen Try.prog x7 t11).bind fun t12=>
  (sGt t12 (I 600)).bind fun t13=>
  x1pc t13
  (some (AV.tup [(I 0),(I 8)],p8.2))
  (xhn call hs u t1 p8.2 (fc+11)))
noncomputable def x5b (call:x1p9) (hs:FHs) (u:Nat) (t5:AV) (m:Mem) (fc:Nat):O2:=
 some (t5,m)
noncomputable def xcx (call:x1p9) (hs:FHs) (u:Nat) (rec0:AV→AV→AV→AV→Mem→Nat→O2) (t1 t2 t5 t6:AV) (m:Mem) (fc:Nat):O2:=
 (sLen Try.prog x5 t1).bind fun t9=>
  (sLt t6 t9).bind fun t10=>
  x1pc t10
  ((sIx 1 t1 t6).bind fun t16=>
  (sLd false 1 t16 m).bind fun t17=>
  (sFA 1 t2).bind fun t18=>
  (sLd false 1 t18 m).bind fun t19=>
  (sIx 4 t19 t6).bind fun t21=>
  (sFA 2 t21).bind fun t22=>
  (sLd false 1 t22 m).bind fun t23=>
  (sMul t17 t23).bind fun t24=>
  (sAdd t5 t24).bind fun t25=>
  (sAdd t6 (I 1)).bind fun t12=>
  rec0 t1 t2 t25 t12 m (fc+21))
  (x5b call hs u t5 m (fc+4))
noncomputable def x3o (call:x1p9) (hs:FHs) (u:Nat):Nat→AV→AV→AV→AV→Mem→Nat→O2
 | 0=>fun _ _ _ _ _ _=>none
 | n+1=>fun t1 t2 t5 t6 m fc=>xcx call hs u (x3o call hs u n) t1 t2 t5 t6 m fc
noncomputable def xcy (call:x1p9) (hs:FHs) (u:Nat) (t1 t2 t5:AV) (m:Mem) (fc:Nat):O2:=
 x3o call hs u NN t1 t2 t5 (I 0) m (fc+1)
noncomputable def xho (call:x1p9) (hs:FHs) (u:Nat) (t0 t1:AV) (m:Mem) (fc:Nat):O2:=
 sBox t0 (u,fc,2) m fun t2 m_1=>
  xcy call hs u t1 t2 (I 0) m_1 (fc+3)
noncomputable def x20 (call:x1p9) (hs:FHs) (u:Nat) (t3:AV) (m:Mem) (fc:Nat):O2:=
 some (t3,m)
noncomputable def x78 (call:x1p9) (hs:FHs) (u:Nat) (rec0:AV→AV→AV→AV→Mem→Nat→O2) (t0 t3 t4 t5:AV) (m:Mem) (fc:Nat):O2:=
 (sAdd t5 (I 1)).bind fun t14=>
  rec0 t0 t3 t4 t14 m (fc+3)
noncomputable def xaj (call:x1p9) (hs:FHs) (u:Nat) (rec0:AV→AV→AV→AV→Mem→Nat→O2) (t0 t3 t4 t5:AV) (m:Mem) (fc:Nat):O2:=
 (sIx 1 t0 t5).bind fun t17=>
  (sLd false 1 t17 m).bind fun t18=>
  (sEq t18 t5).bind fun t20=>
  x1pc t20
  ((sAdd t4 (I 1)).bind fun t25=>
  (sIx 1 t3 t5).bind fun t26=>
  sSt 1 t26 t4 m fun m_1=>
  x78 call hs u rec0 t0 t3 t25 t5 m_1 (fc+14))
  ((sIx 1 t0 t5).bind fun t32=>
  (sLd false 1 t32 m).bind fun t33=>
  (sIx 1 t3 t33).bind fun t34=>
  (sLd false 1 t34 m).bind fun t35=>
  (sIx 1 t3 t5).bind fun t36=>
  sSt 1 t36 t35 m fun m_2=>
  x78 call hs u rec0 t0 t3 t4 t5 m_2 (fc+17))
noncomputable def xak (call:x1p9) (hs:FHs) (u:Nat) (rec0:AV→AV→AV→AV→Mem→Nat→O2) (t0 t3 t4 t5:AV) (m:Mem) (fc:Nat):O2:=
 (sLen Try.prog x5 t0).bind fun t11=>
  (sLt t5 t11).bind fun t12=>
  x1pc t12
  (xaj call hs u rec0 t0 t3 t4 t5 m (fc+4))
  (x20 call hs u t3 m (fc+4))
noncomputable def x2l (call:x1p9) (hs:FHs) (u:Nat):Nat→AV→AV→AV→AV→Mem→Nat→O2
 | 0=>fun _ _ _ _ _ _=>none
 | n+1=>fun t0 t3 t4 t5 m fc=>xak call hs u (x2l call hs u n) t0 t3 t4 t5 m fc
noncomputable def xcz (call:x1p9) (hs:FHs) (u:Nat) (t0 t3 t4:AV) (m:Mem) (fc:Nat):O2:=
 x2l call hs u NN t0 t3 t4 (I 0) m (fc+1)
noncomputable def xhp (call:x1p9) (hs:FHs) (u:Nat) (t0:AV) (m:Mem) (fc:Nat):O2:=
 (sLen Try.prog x5 t0).bind fun t7=>
  x1qd x1q0 1 8 t7 t7 (u,fc+3,8) m fun t8 m_3=>
  xcz call hs u t0 t8 (I 0) m_3 (fc+6)
noncomputable def x6c (call:x1p9) (hs:FHs) (u:Nat) (t2 t4:AV) (m:Mem) (fc:Nat):O2:=
 (sLd true 2 t4 m).bind fun t70=>
  sSt 2 t2 t70 m fun m_1=>
  (sLdP true 2 t2 m_1).bind fun r0=>
  some (r0,m_1)
noncomputable def x6d (call:x1p9) (hs:FHs) (u:Nat) (t3 t4 t5 t6 t7:AV) (m:Mem) (fc:Nat):Option Mem:=
 (sFA 2 t3).bind fun t29=>
  (sLd false 1 t29 m).bind fun t30=>
  (sIxA 2 1 t7 (I 0)).bind fun t31=>
  (sLd false 1 t31 m).bind fun t32=>
  (sIx 1 t30 t32).bind fun t33=>
  (sLd false 1 t33 m).bind fun t34=>
  (sFA 2 t3).bind fun t35=>
  (sLd false 1 t35 m).bind fun t36=>
  (sIxA 2 1 t7 (I 1)).bind fun t37=>
  (sLd false 1 t37 m).bind fun t38=>
  (sIx 1 t36 t38).bind fun t39=>
  (sLd false 1 t39 m).bind fun t40=>
  (x1pb call x10 [t34] m).bind fun p42=>
  (bif sW p42.1 false then some (t40,p42.2) else some (U,p42.2)).bind fun p44=>
  (bif sW p42.1 false then (x1pb call x10 [p44.1] p44.2).bind fun p=>some (p.1,p.2) else some (U,p44.2)).bind fun p45=>
  (x1ph p42.1 (B true) p45.1).bind fun t46=>
  x1pc t46
  (some p45.2)
  ((sFA 1 t4).bind fun t47=>
  (sLd false 1 t47 p45.2).bind fun t48=>
  (sIxA 2 1 t7 (I 0)).bind fun t49=>
  (sLd false 1 t49 p45.2).bind fun t50=>
  (sIxA 2 1 t7 (I 1)).bind fun t51=>
  (sLd false 1 t51 p45.2).bind fun t52=>
  (sSub t40 t34).bind fun t55=>
  (sSub t40 t34).bind fun t58=>
  (x1pb call x2w [t58] p45.2).bind fun p59=>
  (sSub t55 p59.1).bind fun t60=>
  (sQuo t60 (I 4096)).bind fun t61=>
  (sLd false 1 t5 p59.2).bind fun t62=>
  (sIx 1 t62 t6).bind fun t64=>
  (sLd false 1 t64 p59.2).bind fun t65=>
  (x1pl x6 [(0,1,t50),(1,1,t52),(2,1,t61),(3,1,t65)]).bind fun t66=>
  x1pt x6 [(0,4,t66)] 1 4 (u,fc+40,67) p59.2 fun t67 m_2=>
  sApp 4 32 (u,fc+41,68) (elems m_2.get 4 t67) t48 m_2 fun t68 m_3=>
  (sFA 1 t4).bind fun t69=>
  sSt 1 t69 t68 m_3 fun m_4=>
  bif (Nat.ble 1 (mkM 0 [t58])&&true)&&(cAp none (tR t47) (mkM 0 [t58])&&(cAp none (tR t49) (mkM 0 [t58])&&(cAp none (tR t51) (mkM 0 [t58])&&(cAp (some p45.2.next) (tR t5) (mkM 0 [t58])&&(cAp (some p45.2.next) (tR t64) (mkM 0 [t58])&&(x1pd (tR t47) (some [],some [(u,fc+40,67)])&&true)))))) then
  some m_4 else none)
noncomputable def x79 (call:x1p9) (hs:FHs) (u:Nat) (t3 t4 t5 t27 t28:AV) (m:Mem) (fc:Nat):Option Mem:=
 x1po x6e (u,fc+1,7) m fun t7 m_5=>
  sSt 2 t7 t28 m_5 fun m_6=>
  x6d call hs u t3 t4 t5 t27 t7 m_6 (fc+3)
noncomputable def xd0 (call:x1p9) (hs:FHs) (u:Nat) (t2 t3 t4 t5 t26:AV) (m:Mem) (fc:Nat):O2:=
 sRng t26 fun g caps=>
 (call (((u,fc,0),fun args m=>bif Nat.beq args.length 2&&true then x79 call hs m.next t3 t4 t5 (args.getD 0 U) (args.getD 1 U) ⟨m.hp,m.next+1⟩ 0 else none)::hs) g (.yld (u,fc,0)::caps) m).bind fun p=>x6c call hs u t2 t4 p.2 (fc+1)
noncomputable def xd1 (call:x1p9) (hs:FHs) (u:Nat) (t2 t3 t4 t5:AV) (m:Mem) (fc:Nat):O2:=
 (sFA 0 t3).bind fun t22=>
  (sLd false 1 t22 m).bind fun t23=>
  (sFA 1 t3).bind fun t24=>
  (sLd false 1 t24 m).bind fun t25=>
  (x1pb call x60 [t23,t25] m).bind fun p26=>
  xd0 call hs u t2 t3 t4 t5 p26.1 p26.2 (fc+5)
noncomputable def xhq (call:x1p9) (hs:FHs) (u:Nat) (t0:AV) (m:Mem) (fc:Nat):O2:=
 sBox t0 (u,fc,1) m fun t1 m_7=>
  x1po xo (u,fc+1,2) m_7 fun t2 m_8=>
  (sFA 0 t1).bind fun t10=>
  (sLd true 3 t10 m_8).bind fun t11=>
  x1po xp (u,fc+4,3) m_8 fun t3 m_9=>
  sSt 3 t3 t11 m_9 fun m_10=>
  (sFA 2 t3).bind fun t12=>
  (sLd false 1 t12 m_10).bind fun t13=>
  (sLen Try.prog x5 t13).bind fun t14=>
  (x1pl xo [(0,1,t14)]).bind fun t15=>
  x1po xo (u,fc+10,4) m_10 fun t4 m_11=>
  sSt 2 t4 t15 m_11 fun m_12=>
  (sFA 3 t1).bind fun t16=>
  (sLd false 1 t16 m_12).bind fun t17=>
  (sFA 4 t1).bind fun t18=>
  (sLd false 1 t18 m_12).bind fun t19=>
  x1pt x18 [(0,1,t17),(1,1,t19)] 2 1 (u,fc+16,20) m_12 fun t20 m_13=>
  (x1pb call x34 [t20] m_13).bind fun p21=>
  x1po x18 (u,fc+18,5) p21.2 fun t5 m_14=>
  sSt 1 t5 p21.1 m_14 fun m_15=>
  xd1 call hs u t2 t3 t4 t5 m_15 (fc+20)
noncomputable def xhr (call:x1p9) (hs:FHs) (u:Nat) (t0 t1 t2:AV) (m:Mem) (fc:Nat):O2:=
 (x1pb call xb [t0,(I 1),(I 64)] m).bind fun p8=>
  (sNot p8.1).bind fun t9=>
  (bif sW t9 false then some (t1,p8.2) else some (U,p8.2)).bind fun p11=>
  (bif sW t9 false then (x1pb call xb [p11.1,(I 1),(I 64)] p11.2).bind fun p=>some (p.1,p.2) else some (U,p11.2)).bind fun p12=>
  (bif sW t9 false then (sNot p12.1).bind fun v=>some (v,p12.2) else some (U,p12.2)).bind fun p13=>
  (x1ph t9 (B true) p13.1).bind fun t14=>
  x1pc t14
  (some ((I 2),p13.2))
  ((sMul t0 t1).bind fun t18=>
  (sNe t2 t18).bind fun t19=>
  x1pc t19
  (some ((I 10),p13.2))
  (some ((I 0),p13.2)))
noncomputable def x5c (call:x1p9) (hs:FHs) (u:Nat) (m:Mem) (fc:Nat):O2:=
 some ((I 0),m)
noncomputable def xd2 (call:x1p9) (hs:FHs) (u:Nat) (rec0:AV→AV→Mem→Nat→O2) (t0 t3:AV) (m:Mem) (fc:Nat):O2:=
 (sLen Try.prog x5 t0).bind fun t6=>
  (sLt t3 t6).bind fun t7=>
  x1pc t7
  ((sIx 1 t0 t3).bind fun t12=>
  (sLd false 1 t12 m).bind fun t13=>
  (sNe t13 (I 1000000000000)).bind fun t14=>
  (bif sW t14 true then some (t0,m) else some (U,m)).bind fun p16=>
  (bif sW t14 true then some (t3,p16.2) else some (U,p16.2)).bind fun p17=>
  (bif sW t14 true then (sIx 1 p16.1 p17.1).bind fun v=>some (v,p17.2) else some (U,p17.2)).bind fun p18=>
  (bif sW t14 true then (sLd false 1 p18.1 p18.2).bind fun v=>some (v,p18.2) else some (U,p18.2)).bind fun p19=>
  (bif sW t14 true then (x1pb call x61 [p19.1] p19.2).bind fun p=>some (p.1,p.2) else some (U,p19.2)).bind fun p20=>
  (bif sW t14 true then (sNot p20.1).bind fun v=>some (v,p20.2) else some (U,p20.2)).bind fun p21=>
  (x1ph t14 p21.1 (B false)).bind fun t22=>
  x1pc t22
  (some ((I 2),p21.2))
  ((sAdd t3 (I 1)).bind fun t9=>
  rec0 t0 t9 p21.2 (fc+20)))
  (x5c call hs u m (fc+4))
noncomputable def x3p (call:x1p9) (hs:FHs) (u:Nat):Nat→AV→AV→Mem→Nat→O2
 | 0=>fun _ _ _ _=>none
 | n+1=>fun t0 t3 m fc=>xd2 call hs u (x3p call hs u n) t0 t3 m fc
noncomputable def xd3 (call:x1p9) (hs:FHs) (u:Nat) (t0:AV) (m:Mem) (fc:Nat):O2:=
 x3p call hs u NN t0 (I 0) m (fc+1)
noncomputable def xhs (call:x1p9) (hs:FHs) (u:Nat) (t0:AV) (m:Mem) (fc:Nat):O2:=
 xd3 call hs u t0 m (fc+1)
noncomputable def xht (call:x1p9) (hs:FHs) (u:Nat) (t0 t1 t2:AV) (m:Mem) (fc:Nat):O2:=
 (x1pb call xe [t0,(I 1),(I 64)] m).bind fun p9=>
  (sNot p9.1).bind fun t10=>
  (bif sW t10 false then some (t1,p9.2) else some (U,p9.2)).bind fun p12=>
  (bif sW t10 false then (x1pb call xe [p12.1,(I 1),(I 64)] p12.2).bind fun p=>some (p.1,p.2) else some (U,p12.2)).bind fun p13=>
  (bif sW t10 false then (sNot p13.1).bind fun v=>some (v,p13.2) else some (U,p13.2)).bind fun p14=>
  (x1ph t10 (B true) p14.1).bind fun t15=>
  x1pc t15
  (some ((I 2),p14.2))
  ((sMul t0 t1).bind fun t20=>
  (sNe t2 t20).bind fun t21=>
  x1pc t21
  (some ((I 10),p14.2))
  (some ((I 0),p14.2)))
noncomputable def xhu (call:x1p9) (hs:FHs) (u:Nat) (t0 t1:AV) (m:Mem) (fc:Nat):O2:=
 sBox t0 (u,fc,2) m fun t2 m_1=>
  sBox t1 (u,fc+1,3) m_1 fun t3 m_2=>
  (sFA 2 t2).bind fun t5=>
  (sLd false 1 t5 m_2).bind fun t6=>
  (call hs x2f [t6,(AV.clo x4v [t3])] m_2).bind fun p8=>
  x1pc p8.1
  (some ((I 2),p8.2))
  (some ((I 0),p8.2))
noncomputable def xhv (call:x1p9) (hs:FHs) (u:Nat) (t0:AV) (m:Mem) (fc:Nat):O2:=
 (x1pb call x2w [t0] m).bind fun p5=>
  (sEq t0 p5.1).bind fun t6=>
  some (t6,p5.2)
noncomputable def x3q (call:x1p9) (hs:FHs) (u:Nat) (t6:AV) (m:Mem) (fc:Nat):O2:=
 some (t6,m)
noncomputable def xd4 (call:x1p9) (hs:FHs) (u:Nat) (rec0:AV→AV→AV→AV→Mem→Nat→O2) (t6 t25 t26 t27:AV) (m:Mem) (fc:Nat):O2:=
 (sLt t27 t26).bind fun t28=>
  x1pc t28
  ((sIx 1 t25 t27).bind fun t29=>
  (sLd false 1 t29 m).bind fun t30=>
  sApp 1 8 (u,fc+6,33) (elems m.get 1 t30) t6 m fun t33 m_1=>
  (sAdd t27 (I 1)).bind fun t34=>
  rec0 t33 t25 t26 t34 m_1 (fc+10))
  (x3q call hs u t6 m (fc+1))
noncomputable def x5d (call:x1p9) (hs:FHs) (u:Nat):Nat→AV→AV→AV→AV→Mem→Nat→O2
 | 0=>fun _ _ _ _ _ _=>none
 | n+1=>fun t6 t25 t26 t27 m fc=>xd4 call hs u (x5d call hs u n) t6 t25 t26 t27 m fc
noncomputable def xal (call:x1p9) (hs:FHs) (u:Nat) (t0 t6:AV) (m:Mem) (fc:Nat):O2:=
 (sLen Try.prog xd5 t0).bind fun t26=>
  x5d call hs u NN t6 t0 t26 (I 0) m (fc+3)
noncomputable def x1i (call:x1p9) (hs:FHs) (u:Nat) (t0 t3:AV) (m:Mem) (fc:Nat):O2:=
 (x1s9 call x4w [nilS,t3] m).bind fun p24=>
  xal call hs u t0 p24.1 p24.2 (fc+3)
noncomputable def xd6 (call:x1p9) (hs:FHs) (u:Nat) (rec1:AV→AV→AV→AV→AV→Mem→Nat→O2) (t0 t3 t9 t10 t11:AV) (m:Mem) (fc:Nat):O2:=
 (sAdd t11 (I 1)).bind fun t22=>
  rec1 t0 t3 t9 t10 t22 m (fc+2)
noncomputable def xd7 (call:x1p9) (hs:FHs) (u:Nat) (rec1:AV→AV→AV→AV→AV→Mem→Nat→O2) (t0 t3 t9 t10 t11:AV) (m:Mem) (fc:Nat):O2:=
 (sIx 1 t9 t11).bind fun t13=>
  (sLd false 1 t13 m).bind fun t14=>
  (sLen Try.prog x5 t14).bind fun t17=>
  (sAdd t3 t17).bind fun t18=>
  (sLt t18 (I 0)).bind fun t20=>
  x1pc t20
  (none)
  (xd6 call hs u rec1 t0 t18 t9 t10 t11 m (fc+10))
noncomputable def xhw (call:x1p9) (hs:FHs) (u:Nat) (rec1:AV→AV→AV→AV→AV→Mem→Nat→O2) (t0 t3 t9 t10 t11:AV) (m:Mem) (fc:Nat):O2:=
 (sLt t11 t10).bind fun t12=>
  x1pc t12
  (xd7 call hs u rec1 t0 t3 t9 t10 t11 m (fc+1))
  (x1i call hs u t0 t3 m (fc+1))
noncomputable def x6f (call:x1p9) (hs:FHs) (u:Nat):Nat→AV→AV→AV→AV→AV→Mem→Nat→O2
 | 0=>fun _ _ _ _ _ _ _=>none
 | n+1=>fun t0 t3 t9 t10 t11 m fc=>xhw call hs u (x6f call hs u n) t0 t3 t9 t10 t11 m fc
noncomputable def xd8 (call:x1p9) (hs:FHs) (u:Nat) (t0 t3:AV) (m:Mem) (fc:Nat):O2:=
 (sLen Try.prog xd5 t0).bind fun t10=>
  x6f call hs u NN t0 t3 t0 t10 (I 0) m (fc+3)
noncomputable def xhx (call:x1p9) (hs:FHs) (u:Nat) (t0:AV) (m:Mem) (fc:Nat):O2:=
 xd8 call hs u t0 (I 0) m (fc+2)
noncomputable def xhy (call:x1p9) (hs:FHs) (u:Nat) (t0:AV) (m:Mem) (fc:Nat):O2:=
 (x1pb call xe [t0,(I 0),(I 1000)] m).bind fun p4=>
  some (p4.1,p4.2)
noncomputable def xhz (call:x1p9) (hs:FHs) (u:Nat) (t0 t1 t2 t3:AV) (m:Mem) (fc:Nat):O2:=
 sBox t0 (u,fc,4) m fun t4 m_1=>
  x1po x6 (u,fc+1,8) m_1 fun t8 m_2=>
  (sFA 2 t4).bind fun t12=>
  (sLd false 1 t12 m_2).bind fun t13=>
  (sIx 1 t13 t1).bind fun t15=>
  (sLd false 1 t15 m_2).bind fun t16=>
  (sFA 2 t4).bind fun t17=>
  (sLd false 1 t17 m_2).bind fun t18=>
  (sIx 1 t18 t2).bind fun t20=>
  (sLd false 1 t20 m_2).bind fun t21=>
  (sEq t16 (I 1000000000000)).bind fun t23=>
  (bif sW t23 false then some (t21,m_2) else some (U,m_2)).bind fun p25=>
  (bif sW t23 false then (sEq p25.1 (I 1000000000000)).bind fun v=>some (v,p25.2) else some (U,p25.2)).bind fun p26=>
  (x1ph t23 (B true) p26.1).bind fun t27=>
  x1pc t27
  ((x1pl x6 []).bind fun t28=>
  sSt 4 t8 t28 p26.2 fun m_3=>
  (sLdP true 4 t8 m_3).bind fun r0=>
  some (AV.tup [r0,(B false)],m_3))
  ((sSub t21 t16).bind fun t33=>
  (sSub t21 t16).bind fun t36=>
  (x1pb call x4x [t36] p26.2).bind fun p37=>
  (sSub t33 p37.1).bind fun t38=>
  (sQuo t38 (I 4096)).bind fun t39=>
  (x1pl x6 [(0,1,t1),(1,1,t2),(2,1,t39),(3,1,t3)]).bind fun t41=>
  sSt 4 t8 t41 p37.2 fun m_4=>
  (sLdP true 4 t8 m_4).bind fun r0=>
  some (AV.tup [r0,(B true)],m_4))
noncomputable def xi0 (call:x1p9) (hs:FHs) (u:Nat) (t0 t1 t2:AV) (m:Mem) (fc:Nat):O2:=
 (sGe t0 t1).bind fun t9=>
  (bif sW t9 true then some (t0,m) else some (U,m)).bind fun p11=>
  (bif sW t9 true then some (t2,p11.2) else some (U,p11.2)).bind fun p12=>
  (bif sW t9 true then (sLe p11.1 p12.1).bind fun v=>some (v,p12.2) else some (U,p12.2)).bind fun p13=>
  (x1ph t9 p13.1 (B false)).bind fun t14=>
  some (t14,p13.2)
noncomputable def x1j (call:x1p9) (hs:FHs) (u:Nat) (t1 t3:AV) (m:Mem) (fc:Nat):O2:=
 (sFA 0 t1).bind fun t48=>
  (sFA 0 t48).bind fun t49=>
  (sLd false 1 t49 m).bind fun t50=>
  (call hs x4y [t50,(AV.clo x2v [t3])] m).bind fun p52=>
  some (p52.1,p52.2)
noncomputable def x7a (call:x1p9) (hs:FHs) (u:Nat) (rec0:AV→AV→AV→AV→AV→Mem→Nat→O2) (t1 t3 t12 t13 t14:AV) (m:Mem) (fc:Nat):O2:=
 (sAdd t14 (I 1)).bind fun t47=>
  rec0 t1 t3 t12 t13 t47 m (fc+2)
noncomputable def xam (call:x1p9) (hs:FHs) (u:Nat) (rec0:AV→AV→AV→AV→AV→Mem→Nat→O2) (t1 t3 t12 t13 t14:AV) (m:Mem) (fc:Nat):O2:=
 (sIx 4 t12 t14).bind fun t16=>
  (sLd true 4 t16 m).bind fun t17=>
  x1po x6 (u,fc+2,5) m fun t5 m_1=>
  sSt 4 t5 t17 m_1 fun m_2=>
  (sFA 3 t5).bind fun t18=>
  (sLd false 1 t18 m_2).bind fun t19=>
  (sGt t19 (I 0)).bind fun t20=>
  x1pc t20
  ((sLd false 1 t3 m_2).bind fun t21=>
  (sFA 0 t5).bind fun t22=>
  (sLd false 1 t22 m_2).bind fun t23=>
  (sLd false 1 t3 m_2).bind fun t24=>
  (sFA 1 t5).bind fun t25=>
  (sLd false 1 t25 m_2).bind fun t26=>
  (sLd false 1 t3 m_2).bind fun t27=>
  (sFA 0 t5).bind fun t28=>
  (sLd false 1 t28 m_2).bind fun t29=>
  (sIx 1 t27 t29).bind fun t30=>
  (sLd false 1 t30 m_2).bind fun t31=>
  (sFA 1 t5).bind fun t32=>
  (sLd false 1 t32 m_2).bind fun t33=>
  x1pt x1q0 [(0,1,t33)] 1 1 (u,fc+20,34) m_2 fun t34 m_3=>
  sApp 1 8 (u,fc+21,35) (elems m_3.get 1 t34) t31 m_3 fun t35 m_4=>
  (sLd false 1 t3 m_4).bind fun t36=>
  (sFA 1 t5).bind fun t37=>
  (sLd false 1 t37 m_4).bind fun t38=>
  (sIx 1 t36 t38).bind fun t39=>
  (sLd false 1 t39 m_4).bind fun t40=>
  (sFA 0 t5).bind fun t41=>
  (sLd false 1 t41 m_4).bind fun t42=>
  x1pt x1q0 [(0,1,t42)] 1 1 (u,fc+29,43) m_4 fun t43 m_5=>
  sApp 1 8 (u,fc+30,44) (elems m_5.get 1 t43) t40 m_5 fun t44 m_6=>
  (sIx 1 t21 t23).bind fun t45=>
  sSt 1 t45 t35 m_6 fun m_7=>
  (sIx 1 t24 t26).bind fun t46=>
  sSt 1 t46 t44 m_7 fun m_8=>
  bif (x1pd (tR t3) (some [],some [(u,fc+20,34)])&&(x1pd (tR t22) (some [],some [(u,fc+20,34)])&&(x1pd (tR t3) (some [],some [(u,fc+20,34)])&&(x1pd (tR t25) (some [],some [(u,fc+20,34)])&&(x1pd (tR t3) (some [],some [(u,fc+20,34)])&&(x1pd (tR t28) (some [],some [(u,fc+20,34)])&&(x1pd (tR t30) (some [],some [(u,fc+20,34)])&&(x1pd (tR t3) (tX t34,tA (u,fc+21,35) t31)&&(x1pd (tR t22) (tX t34,tA (u,fc+21,35) t31)&&(x1pd (tR t3) (tX t34,tA (u,fc+21,35) t31)&&(x1pd (tR t25) (tX t34,tA (u,fc+21,35) t31)&&(x1pd (some [],some [(u,fc+20,34)]) (tR t3)&&(x1pd (tX t34,tA (u,fc+21,35) t31) (tR t3)&&(x1pd (some [],some [(u,fc+20,34)]) (tR t37)&&(x1pd (tX t34,tA (u,fc+21,35) t31) (tR t37)&&(x1pd (some [],some [(u,fc+20,34)]) (tR t39)&&(x1pd (tX t34,tA (u,fc+21,35) t31) (tR t39)&&(x1pd (some [],some [(u,fc+20,34)]) (tR t41)&&(x1pd (tX t34,tA (u,fc+21,35) t31) (tR t41)&&(x1pd (tR t3) (some [],some [(u,fc+29,43)])&&(x1pd (tR t22) (some [],some [(u,fc+29,43)])&&(x1pd (tR t3) (some [],some [(u,fc+29,43)])&&(x1pd (tR t25) (some [],some [(u,fc+29,43)])&&(x1pd (tR t3) (some [],some [(u,fc+29,43)])&&(x1pd (tR t28) (some [],some [(u,fc+29,43)])&&(x1pd (tR t30) (some [],some [(u,fc+29,43)])&&(x1pd (tR t32) (some [],some [(u,fc+29,43)])&&(x1pd (some [],some [(u,fc+20,34)]) (some [],some [(u,fc+29,43)])&&(x1pd (tX t34,tA (u,fc+21,35) t31) (some [],some [(u,fc+29,43)])&&(x1pd (tR t3) (some [],some [(u,fc+29,43)])&&(x1pd (tR t37) (some [],some [(u,fc+29,43)])&&(x1pd (tR t39) (some [],some [(u,fc+29,43)])&&(x1pd (tR t3) (tX t43,tA (u,fc+30,44) t40)&&(x1pd (tR t22) (tX t43,tA (u,fc+30,44) t40)&&(x1pd (tR t3) (tX t43,tA (u,fc+30,44) t40)&&(x1pd (tR t25) (tX t43,tA (u,fc+30,44) t40)&&(x1pd (tR t3) (tS t45)&&(x1pd (tR t25) (tS t45)&&true)))))))))))))))))))))))))))))))))))))) then
  x7a call hs u rec0 t1 t3 t12 t13 t14 m_8 (fc+35) else none)
  (x7a call hs u rec0 t1 t3 t12 t13 t14 m_2 (fc+7))
noncomputable def xan (call:x1p9) (hs:FHs) (u:Nat) (rec0:AV→AV→AV→AV→AV→Mem→Nat→O2) (t1 t3 t12 t13 t14:AV) (m:Mem) (fc:Nat):O2:=
 (sLt t14 t13).bind fun t15=>
  x1pc t15
  (xam call hs u rec0 t1 t3 t12 t13 t14 m (fc+1))
  (x1j call hs u t1 t3 m (fc+1))
noncomputable def x21 (call:x1p9) (hs:FHs) (u:Nat):Nat→AV→AV→AV→AV→AV→Mem→Nat→O2
 | 0=>fun _ _ _ _ _ _ _=>none
 | n+1=>fun t1 t3 t12 t13 t14 m fc=>xan call hs u (x21 call hs u n) t1 t3 t12 t13 t14 m fc
noncomputable def xd9 (call:x1p9) (hs:FHs) (u:Nat) (t1 t3:AV) (m:Mem) (fc:Nat):O2:=
 (sFA 0 t1).bind fun t10=>
  (sFA 1 t10).bind fun t11=>
  (sLd false 1 t11 m).bind fun t12=>
  (sLen Try.prog x7 t12).bind fun t13=>
  x21 call hs u NN t1 t3 t12 t13 (I 0) m (fc+5)
noncomputable def xda (call:x1p9) (hs:FHs) (u:Nat) (t0:AV) (m:Mem) (fc:Nat):O2:=
 sBox t0 (u,fc,1) m fun t1 m_9=>
  (sFA 0 t1).bind fun t6=>
  (sFA 0 t6).bind fun t7=>
  (sLd false 1 t7 m_9).bind fun t8=>
  x1qd x18 1 24 t8 t8 (u,fc+5,9) m_9 fun t9 m_10=>
  x1po xi1 (u,fc+6,3) m_10 fun t3 m_11=>
  sSt 1 t3 t9 m_11 fun m_12=>
  xd9 call hs u t1 t3 m_12 (fc+8)
noncomputable def x2m (call:x1p9) (hs:FHs) (u:Nat) (t5:AV) (m:Mem) (fc:Nat):O2:=
 (sFA 0 t5).bind fun t45=>
  (sLd false 1 t45 m).bind fun t46=>
  some (t46,m)
noncomputable def xdb (call:x1p9) (hs:FHs) (u:Nat) (rec0:AV→AV→AV→AV→AV→Mem→Nat→O2) (t0 t1 t5 t12 t13:AV) (m:Mem) (fc:Nat):O2:=
 (sAdd t13 (I 1)).bind fun t44=>
  rec0 t0 t1 t5 t12 t44 m (fc+2)
noncomputable def xi2 (call:x1p9) (hs:FHs) (u:Nat) (rec0:AV→AV→AV→AV→AV→Mem→Nat→O2) (t0 t1 t5 t12 t13:AV) (m:Mem) (fc:Nat):O2:=
 (sFA 0 t5).bind fun t16=>
  (sLd false 1 t16 m).bind fun t17=>
  (sIx 1 t17 t13).bind fun t19=>
  (sLd false 1 t19 m).bind fun t20=>
  (sLt t20 (I 1152921504606846976)).bind fun t21=>
  x1pc t21
  ((sFA 0 t5).bind fun t22=>
  (sLd false 1 t22 m).bind fun t23=>
  (sIx 1 t23 t13).bind fun t25=>
  (sLd false 1 t25 m).bind fun t26=>
  (sNil t0).bind fun t28=>
  (sFA 3 t28).bind fun t29=>
  (sLd false 1 t29 m).bind fun t30=>
  (sIx 1 t30 t13).bind fun t32=>
  (sLd false 1 t32 m).bind fun t33=>
  (sNil t0).bind fun t35=>
  (sFA 3 t35).bind fun t36=>
  (sLd false 1 t36 m).bind fun t37=>
  (sIx 1 t37 t1).bind fun t39=>
  (sLd false 1 t39 m).bind fun t40=>
  (sSub t33 t40).bind fun t41=>
  (sAdd t26 t41).bind fun t42=>
  (sIx 1 t23 t13).bind fun t43=>
  sSt 1 t43 t42 m fun m_1=>
  xdb call hs u rec0 t0 t1 t5 t12 t13 m_1 (fc+31))
  (xdb call hs u rec0 t0 t1 t5 t12 t13 m (fc+8))
noncomputable def xmv (call:x1p9) (hs:FHs) (u:Nat) (rec0:AV→AV→AV→AV→AV→Mem→Nat→O2) (t0 t1 t5 t12 t13:AV) (m:Mem) (fc:Nat):O2:=
 (sLt t13 t12).bind fun t14=>
  x1pc t14
  (xi2 call hs u rec0 t0 t1 t5 t12 t13 m (fc+1))
  (x2m call hs u t5 m (fc+1))
noncomputable def x7b (call:x1p9) (hs:FHs) (u:Nat):Nat→AV→AV→AV→AV→AV→Mem→Nat→O2
 | 0=>fun _ _ _ _ _ _ _=>none
 | n+1=>fun t0 t1 t5 t12 t13 m fc=>xmv call hs u (x7b call hs u n) t0 t1 t5 t12 t13 m fc
noncomputable def xi3 (call:x1p9) (hs:FHs) (u:Nat) (t0 t1 t5:AV) (m:Mem) (fc:Nat):O2:=
 (sFA 0 t5).bind fun t10=>
  (sLd false 1 t10 m).bind fun t11=>
  (sLen Try.prog x5 t11).bind fun t12=>
  x7b call hs u NN t0 t1 t5 t12 (I 0) m (fc+4)
noncomputable def xmw (call:x1p9) (hs:FHs) (u:Nat) (t0 t1:AV) (m:Mem) (fc:Nat):O2:=
 (x1u3 call x1r [t0,t1] m).bind fun p9=>
  x1po x7c (u,fc+4,5) p9.2 fun t5 m_2=>
  sSt 3 t5 p9.1 m_2 fun m_3=>
  xi3 call hs u t0 t1 t5 m_3 (fc+6)
noncomputable def x6g (call:x1p9) (hs:FHs) (u:Nat) (t1 t4:AV) (m:Mem) (fc:Nat):O2:=
 (sFA 0 t1).bind fun t21=>
  (sFA 0 t21).bind fun t22=>
  (sLd false 1 t22 m).bind fun t23=>
  (call hs x4y [t23,(AV.clo x88 [t1,t4])] m).bind fun p25=>
  some (p25.1,p25.2)
noncomputable def xmx (call:x1p9) (hs:FHs) (u:Nat) (rec0:AV→AV→AV→AV→AV→Mem→Nat→O2) (t1 t3 t4 t10 t11:AV) (m:Mem) (fc:Nat):O2:=
 (sLt t11 t10).bind fun t12=>
  x1pc t12
  ((sLd false 1 t4 m).bind fun t14=>
  (x1u3 call x5x [t3,t11] m).bind fun p17=>
  x1pt x18 [(0,1,p17.1)] 1 1 (u,fc+7,18) p17.2 fun t18 m_1=>
  sApp 1 24 (u,fc+8,19) (elems m_1.get 1 t18) t14 m_1 fun t19 m_2=>
  sSt 1 t4 t19 m_2 fun m_3=>
  bif (cAp none (tR t4) (mkM 4 [t3,t11])&&(x1pd (tR t4) (some [],some [(u,fc+7,18)])&&true)) then
  (sAdd t11 (I 1)).bind fun t20=>
  rec0 t1 t3 t4 t10 t20 m_3 (fc+12) else none)
  (x6g call hs u t1 t4 m (fc+1))
noncomputable def x7d (call:x1p9) (hs:FHs) (u:Nat):Nat→AV→AV→AV→AV→AV→Mem→Nat→O2
 | 0=>fun _ _ _ _ _ _ _=>none
 | n+1=>fun t1 t3 t4 t10 t11 m fc=>xmx call hs u (x7d call hs u n) t1 t3 t4 t10 t11 m fc
noncomputable def xi4 (call:x1p9) (hs:FHs) (u:Nat) (t1 t3 t4:AV) (m:Mem) (fc:Nat):O2:=
 (sFA 0 t1).bind fun t8=>
  (sFA 0 t8).bind fun t9=>
  (sLd false 1 t9 m).bind fun t10=>
  x7d call hs u NN t1 t3 t4 t10 (I 0) m (fc+4)
noncomputable def xmy (call:x1p9) (hs:FHs) (u:Nat) (t0:AV) (m:Mem) (fc:Nat):O2:=
 sBox t0 (u,fc,1) m fun t1 m_4=>
  (sLd true 2 t1 m_4).bind fun t6=>
  (x1s9 call x1t [t6] m_4).bind fun p7=>
  x1po xi1 (u,fc+5,4) p7.2 fun t4 m_5=>
  xi4 call hs u t1 p7.1 t4 m_5 (fc+6)
noncomputable def xdc (call:x1p9) (hs:FHs) (u:Nat) (rec0:AV→AV→AV→AV→AV→AV→Mem→Nat→O2) (t6 t8 t9 t14 t16 t17:AV) (m:Mem) (fc:Nat):O2:=
 (sIx 1 t8 t17).bind fun t145=>
  (sLd false 1 t145 m).bind fun t146=>
  (sIx 6 t6 t146).bind fun t147=>
  (sLd true 6 t147 m).bind fun t148=>
  x1po x5e (u,fc+7,18) m fun t18 m_1=>
  sSt 6 t18 t148 m_1 fun m_2=>
  (sFA 2 t18).bind fun t150=>
  (sLd false 1 t150 m_2).bind fun t151=>
  (sFA 2 t18).bind fun t153=>
  (sLd false 1 t153 m_2).bind fun t154=>
  (sIx 1 t16 t154).bind fun t155=>
  (sLd false 1 t155 m_2).bind fun t156=>
  (sFA 3 t18).bind fun t157=>
  (sLd false 1 t157 m_2).bind fun t158=>
  (sMul t158 t14).bind fun t160=>
  (sAdd t156 t160).bind fun t161=>
  (sIx 1 t16 t151).bind fun t162=>
  sSt 1 t162 t161 m_2 fun m_3=>
  (sFA 0 t18).bind fun t163=>
  (sLd false 1 t163 m_3).bind fun t164=>
  (sEq t164 t9).bind fun t167=>
  x1pc t167
  (some (AV.tup [t16,(B true)],m_3))
  (rec0 t6 t8 t9 t14 t16 t164 m_3 (fc+30))
noncomputable def x3r (call:x1p9) (hs:FHs) (u:Nat):Nat→AV→AV→AV→AV→AV→AV→Mem→Nat→O2
 | 0=>fun _ _ _ _ _ _ _ _=>none
 | n+1=>fun t6 t8 t9 t14 t16 t17 m fc=>xdc call hs u (x3r call hs u n) t6 t8 t9 t14 t16 t17 m fc
noncomputable def x3s (call:x1p9) (hs:FHs) (u:Nat) (t1 t6 t8 t9 t14:AV) (m:Mem) (fc:Nat):O2:=
 (x1s9 call xf [t1] m).bind fun p140=>
  x3r call hs u NN t6 t8 t9 t14 p140.1 t9 p140.2 (fc+5)
noncomputable def xdd (call:x1p9) (hs:FHs) (u:Nat) (rec1:AV→AV→AV→AV→AV→AV→Mem→Nat→O2) (t1 t6 t8 t9 t14 t15:AV) (m:Mem) (fc:Nat):O2:=
 (sNe t15 t9).bind fun t120=>
  x1pc t120
  ((sIx 1 t8 t15).bind fun t133=>
  (sLd false 1 t133 m).bind fun t134=>
  (sIx 6 t6 t134).bind fun t135=>
  (sFA 5 t135).bind fun t136=>
  (sLd false 1 t136 m).bind fun t137=>
  (sMin t14 t137).bind fun t138=>
  (sIx 1 t8 t15).bind fun t124=>
  (sLd false 1 t124 m).bind fun t125=>
  (sIx 6 t6 t125).bind fun t126=>
  (sFA 0 t126).bind fun t127=>
  (sLd false 1 t127 m).bind fun t128=>
  rec1 t1 t6 t8 t9 t138 t128 m (fc+23))
  (x3s call hs u t1 t6 t8 t9 t14 m (fc+3))
noncomputable def x3t (call:x1p9) (hs:FHs) (u:Nat):Nat→AV→AV→AV→AV→AV→AV→Mem→Nat→O2
 | 0=>fun _ _ _ _ _ _ _ _=>none
 | n+1=>fun t1 t6 t8 t9 t14 t15 m fc=>xdd call hs u (x3t call hs u n) t1 t6 t8 t9 t14 t15 m fc
noncomputable def xde (call:x1p9) (hs:FHs) (u:Nat) (t1 t6 t8 t9 t14:AV) (m:Mem) (fc:Nat):O2:=
 (sIx 1 t8 t9).bind fun t113=>
  (sLd false 1 t113 m).bind fun t114=>
  (sIx 6 t6 t114).bind fun t115=>
  (sFA 0 t115).bind fun t116=>
  (sLd false 1 t116 m).bind fun t117=>
  x3t call hs u NN t1 t6 t8 t9 t14 t117 m (fc+9)
noncomputable def x3u (call:x1p9) (hs:FHs) (u:Nat) (t1 t6 t8 t9:AV) (m:Mem) (fc:Nat):O2:=
 (sIx 1 t8 t9).bind fun t105=>
  (sLd false 1 t105 m).bind fun t106=>
  (sIx 6 t6 t106).bind fun t107=>
  (sFA 5 t107).bind fun t108=>
  (sLd false 1 t108 m).bind fun t109=>
  xde call hs u t1 t6 t8 t9 t109 m (fc+9)
noncomputable def xdf (call:x1p9) (hs:FHs) (u:Nat) (rec2:AV→AV→AV→AV→AV→AV→Mem→Nat→O2) (t1 t2 t6 t8 t9 t13:AV) (m:Mem) (fc:Nat):O2:=
 (sFA 0 t2).bind fun t89=>
  (sLd false 1 t89 m).bind fun t90=>
  (sLt t13 t90).bind fun t91=>
  x1pc t91
  ((sIx 1 t8 t9).bind fun t97=>
  (sLd false 1 t97 m).bind fun t98=>
  (sIx 6 t6 t98).bind fun t99=>
  (sFA 0 t99).bind fun t100=>
  (sLd false 1 t100 m).bind fun t101=>
  (sAdd t13 (I 1)).bind fun t93=>
  rec2 t1 t2 t6 t8 t101 t93 m (fc+16))
  (x3u call hs u t1 t6 t8 t9 m (fc+4))
noncomputable def x3v (call:x1p9) (hs:FHs) (u:Nat):Nat→AV→AV→AV→AV→AV→AV→Mem→Nat→O2
 | 0=>fun _ _ _ _ _ _ _ _=>none
 | n+1=>fun t1 t2 t6 t8 t9 t13 m fc=>xdf call hs u (x3v call hs u n) t1 t2 t6 t8 t9 t13 m fc
noncomputable def x8 (call:x1p9) (hs:FHs) (u:Nat) (t1 t2 t6 t8 t9:AV) (m:Mem) (fc:Nat):O2:=
 x3v call hs u NN t1 t2 t6 t8 t9 (I 0) m (fc+1)
noncomputable def xl (call:x1p9) (hs:FHs) (u:Nat) (rec3:AV→AV→AV→AV→AV→AV→AV→Mem→Nat→O2) (t1 t2 t6 t7 t8 t9 t10:AV) (m:Mem) (fc:Nat):O2:=
 (sAdd t10 (I 1)).bind fun t33=>
  rec3 t1 t2 t6 t7 t8 t9 t33 m (fc+3)
noncomputable def x1a (call:x1p9) (hs:FHs) (u:Nat) (rec3:AV→AV→AV→AV→AV→AV→AV→Mem→Nat→O2) (t1 t2 t6 t7 t8 t9 t10:AV) (m:Mem) (fc:Nat):O2:=
 (sLt t9 (I 0)).bind fun t86=>
  x1pc t86
  (some (AV.tup [t1,(B false)],m))
  (xl call hs u rec3 t1 t2 t6 t7 t8 t9 t10 m (fc+2))
noncomputable def x7e (call:x1p9) (hs:FHs) (u:Nat) (rec3:AV→AV→AV→AV→AV→AV→AV→Mem→Nat→O2) (rec4:AV→AV→AV→AV→AV→AV→AV→AV→Mem→Nat→O2) (t1 t2 t6 t7 t8 t9 t10 t11:AV) (m:Mem) (fc:Nat):O2:=
 (sAdd t11 (I 1)).bind fun t39=>
  rec4 t1 t2 t6 t7 t8 t9 t10 t39 m (fc+3)
noncomputable def xao (call:x1p9) (hs:FHs) (u:Nat) (rec3:AV→AV→AV→AV→AV→AV→AV→Mem→Nat→O2) (rec4:AV→AV→AV→AV→AV→AV→AV→AV→Mem→Nat→O2) (t1 t2 t6 t7 t8 t9 t10 t11:AV) (m:Mem) (fc:Nat):O2:=
 (sIx 6 t6 t11).bind fun t43=>
  (sFA 0 t43).bind fun t44=>
  (sLd false 1 t44 m).bind fun t45=>
  (sIx 1 t7 t45).bind fun t46=>
  (sLd false 1 t46 m).bind fun t47=>
  (sIx 6 t6 t11).bind fun t50=>
  (sFA 4 t50).bind fun t51=>
  (sLd false 1 t51 m).bind fun t52=>
  (sAdd t47 t52).bind fun t53=>
  (sIx 6 t6 t11).bind fun t58=>
  (sFA 1 t58).bind fun t59=>
  (sLd false 1 t59 m).bind fun t60=>
  (sIx 1 t7 t60).bind fun t61=>
  (sLd false 1 t61 m).bind fun t62=>
  (sGt t53 t62).bind fun t63=>
  x1pc t63
  ((sIx 6 t6 t11).bind fun t67=>
  (sFA 1 t67).bind fun t68=>
  (sLd false 1 t68 m).bind fun t69=>
  (sIx 6 t6 t11).bind fun t73=>
  (sFA 1 t73).bind fun t74=>
  (sLd false 1 t74 m).bind fun t75=>
  (sIx 6 t6 t11).bind fun t80=>
  (sFA 1 t80).bind fun t81=>
  (sLd false 1 t81 m).bind fun t82=>
  (sIx 1 t7 t69).bind fun t83=>
  sSt 1 t83 t53 m fun m_4=>
  (sIx 1 t8 t75).bind fun t84=>
  sSt 1 t84 t11 m_4 fun m_5=>
  x7e call hs u rec3 rec4 t1 t2 t6 t7 t8 t82 t10 t11 m_5 (fc+49))
  (x7e call hs u rec3 rec4 t1 t2 t6 t7 t8 t9 t10 t11 m (fc+25))
noncomputable def xap (call:x1p9) (hs:FHs) (u:Nat) (rec3:AV→AV→AV→AV→AV→AV→AV→Mem→Nat→O2) (rec4:AV→AV→AV→AV→AV→AV→AV→AV→Mem→Nat→O2) (t1 t2 t6 t7 t8 t9 t10 t11:AV) (m:Mem) (fc:Nat):O2:=
 (sLen Try.prog xmz t6).bind fun t36=>
  (sLt t11 t36).bind fun t37=>
  x1pc t37
  (xao call hs u rec3 rec4 t1 t2 t6 t7 t8 t9 t10 t11 m (fc+4))
  (x1a call hs u rec3 t1 t2 t6 t7 t8 t9 t10 m (fc+4))
noncomputable def x2n (call:x1p9) (hs:FHs) (u:Nat) (rec3:AV→AV→AV→AV→AV→AV→AV→Mem→Nat→O2):Nat→AV→AV→AV→AV→AV→AV→AV→AV→Mem→Nat→O2
 | 0=>fun _ _ _ _ _ _ _ _ _ _=>none
 | n+1=>fun t1 t2 t6 t7 t8 t9 t10 t11 m fc=>xap call hs u rec3 (x2n call hs u rec3 n) t1 t2 t6 t7 t8 t9 t10 t11 m fc
noncomputable def xdg (call:x1p9) (hs:FHs) (u:Nat) (rec3:AV→AV→AV→AV→AV→AV→AV→Mem→Nat→O2) (t1 t2 t6 t7 t8 t9 t10:AV) (m:Mem) (fc:Nat):O2:=
 x2n call hs u rec3 NN t1 t2 t6 t7 t8 t9 t10 (I 0) m (fc+1)
noncomputable def xaq (call:x1p9) (hs:FHs) (u:Nat) (rec3:AV→AV→AV→AV→AV→AV→AV→Mem→Nat→O2) (t1 t2 t6 t7 t8 t10:AV) (m:Mem) (fc:Nat):O2:=
 xdg call hs u rec3 t1 t2 t6 t7 t8 (I (-1)) t10 m (fc+1)
noncomputable def xar (call:x1p9) (hs:FHs) (u:Nat) (rec3:AV→AV→AV→AV→AV→AV→AV→Mem→Nat→O2) (t1 t2 t6 t7 t8 t9 t10:AV) (m:Mem) (fc:Nat):O2:=
 (sFA 0 t2).bind fun t29=>
  (sLd false 1 t29 m).bind fun t30=>
  (sLe t10 t30).bind fun t31=>
  x1pc t31
  (xaq call hs u rec3 t1 t2 t6 t7 t8 t10 m (fc+4))
  (x8 call hs u t1 t2 t6 t8 t9 m (fc+4))
noncomputable def xv (call:x1p9) (hs:FHs) (u:Nat):Nat→AV→AV→AV→AV→AV→AV→AV→Mem→Nat→O2
 | 0=>fun _ _ _ _ _ _ _ _ _=>none
 | n+1=>fun t1 t2 t6 t7 t8 t9 t10 m fc=>xar call hs u (xv call hs u n) t1 t2 t6 t7 t8 t9 t10 m fc
noncomputable def xdh (call:x1p9) (hs:FHs) (u:Nat) (t1 t2 t6 t7 t8 t9:AV) (m:Mem) (fc:Nat):O2:=
 xv call hs u NN t1 t2 t6 t7 t8 t9 (I 0) m (fc+1)
noncomputable def xi5 (call:x1p9) (hs:FHs) (u:Nat) (t0 t1:AV) (m:Mem) (fc:Nat):O2:=
 sBox t0 (u,fc,2) m fun t2 m_6=>
  (sLd true 2 t2 m_6).bind fun t19=>
  (x1pb call x62 [t19,t1] m_6).bind fun p21=>
  (sFA 0 t2).bind fun t22=>
  (sLd false 1 t22 p21.2).bind fun t23=>
  x1qd x1q0 1 8 t23 t23 (u,fc+9,24) p21.2 fun t24 m_7=>
  (sFA 0 t2).bind fun t25=>
  (sLd false 1 t25 m_7).bind fun t26=>
  x1qd x1q0 1 8 t26 t26 (u,fc+12,27) m_7 fun t27 m_8=>
  bif (x1pd (some [],some [(u,fc+9,24)]) (tR t25)&&(x1pd (tR t22) (some [],some [(u,fc+12,27)])&&(x1pd (some [],some [(u,fc+9,24)]) (some [],some [(u,fc+12,27)])&&true))) then
  xdh call hs u t1 t2 p21.1 t24 t27 (I (-1)) m_8 (fc+16) else none
noncomputable def xdi (call:x1p9) (hs:FHs) (u:Nat) (t0 t1:AV) (m:Mem) (fc:Nat):O2:=
 (call hs x29 [t0,t1] m).bind fun p7=>
  (sGe p7.1 (I 0)).bind fun t8=>
  some (t8,p7.2)
noncomputable def xn0 (call:x1p9) (hs:FHs) (u:Nat) (t0:AV) (m:Mem) (fc:Nat):O2:=
 (x1pb call xe [t0,(I (-1000000)),(I 1000000)] m).bind fun p4=>
  (sNot p4.1).bind fun t5=>
  some (t5,p4.2)
noncomputable def xdj (call:x1p9) (hs:FHs) (u:Nat) (t0:AV) (m:Mem) (fc:Nat):O2:=
 (sBin Try.prog .eql x5 (.tmp 3) (.const (.slice none 0 0)) t0 nilS).bind fun t4=>
  x1pc t4
  (some (nilS,m))
  (x1pt x1q0 [] 0 1 (u,fc+3,5) m fun t5 m_1=>
  sApp 1 8 (u,fc+5,7) (elems m_1.get 1 t0) t5 m_1 fun t7 m_2=>
  some (t7,m_2))
noncomputable def xi6 (call:x1p9) (hs:FHs) (u:Nat) (t0:AV) (m:Mem) (fc:Nat):O2:=
 (sEq t0 (I 1000000000000)).bind fun t4=>
  some (t4,m)
noncomputable def x5f (call:x1p9) (hs:FHs) (u:Nat) (t6 t7:AV) (m:Mem) (fc:Nat):O2:=
 (x1pb call x2f [t6,(AV.clo x2g [])] m).bind fun p74=>
  x1pc p74.1
  (some (AV.tup [(I 0),(I 25)],p74.2))
  (some (AV.tup [t7,(I 0)],p74.2))
noncomputable def xdk (call:x1p9) (hs:FHs) (u:Nat) (rec0:AV→AV→AV→AV→AV→AV→Mem→Nat→O2) (t1 t6 t7 t23 t24 t25:AV) (m:Mem) (fc:Nat):O2:=
 (sLt t25 t24).bind fun t26=>
  x1pc t26
  ((sIx 4 t23 t25).bind fun t28=>
  (sLd true 4 t28 m).bind fun t29=>
  x1po x6 (u,fc+4,9) m fun t9 m_1=>
  sSt 4 t9 t29 m_1 fun m_2=>
  (sIx 1 t1 t25).bind fun t32=>
  (sLd false 1 t32 m_2).bind fun t33=>
  (sFA 3 t9).bind fun t34=>
  (sLd false 1 t34 m_2).bind fun t35=>
  (sNeg t35).bind fun t36=>
  (sFA 3 t9).bind fun t37=>
  (sLd false 1 t37 m_2).bind fun t38=>
  (x1pb call xe [t33,t36,t38] m_2).bind fun p39=>
  (sNot p39.1).bind fun t40=>
  x1pc t40
  (some (AV.tup [(I 0),(I 2)],p39.2))
  ((sFA 0 t9).bind fun t42=>
  (sLd false 1 t42 p39.2).bind fun t43=>
  (sIx 1 t6 t43).bind fun t44=>
  (sLd false 1 t44 p39.2).bind fun t45=>
  (sIx 1 t1 t25).bind fun t48=>
  (sLd false 1 t48 p39.2).bind fun t49=>
  (sSub t45 t49).bind fun t50=>
  (sIx 1 t6 t43).bind fun t51=>
  sSt 1 t51 t50 p39.2 fun m_3=>
  (sFA 1 t9).bind fun t53=>
  (sLd false 1 t53 m_3).bind fun t54=>
  (sIx 1 t6 t54).bind fun t55=>
  (sLd false 1 t55 m_3).bind fun t56=>
  (sIx 1 t1 t25).bind fun t59=>
  (sLd false 1 t59 m_3).bind fun t60=>
  (sAdd t56 t60).bind fun t61=>
  (sIx 1 t6 t54).bind fun t62=>
  sSt 1 t62 t61 m_3 fun m_4=>
  (sIx 1 t1 t25).bind fun t66=>
  (sLd false 1 t66 m_4).bind fun t67=>
  (sFA 2 t9).bind fun t68=>
  (sLd false 1 t68 m_4).bind fun t69=>
  (sMul t67 t69).bind fun t70=>
  (sAdd t7 t70).bind fun t71=>
  (sAdd t25 (I 1)).bind fun t72=>
  rec0 t1 t6 t71 t23 t24 t72 m_4 (fc+54)))
  (x5f call hs u t6 t7 m (fc+1))
noncomputable def x3w (call:x1p9) (hs:FHs) (u:Nat):Nat→AV→AV→AV→AV→AV→AV→Mem→Nat→O2
 | 0=>fun _ _ _ _ _ _ _ _=>none
 | n+1=>fun t1 t6 t7 t23 t24 t25 m fc=>xdk call hs u (x3w call hs u n) t1 t6 t7 t23 t24 t25 m fc
noncomputable def xdl (call:x1p9) (hs:FHs) (u:Nat) (t1 t2 t6 t7:AV) (m:Mem) (fc:Nat):O2:=
 (sFA 0 t2).bind fun t21=>
  (sFA 1 t21).bind fun t22=>
  (sLd false 1 t22 m).bind fun t23=>
  (sLen Try.prog x7 t23).bind fun t24=>
  x3w call hs u NN t1 t6 t7 t23 t24 (I 0) m (fc+5)
noncomputable def xi7 (call:x1p9) (hs:FHs) (u:Nat) (t0 t1:AV) (m:Mem) (fc:Nat):O2:=
 sBox t0 (u,fc,2) m fun t2 m_5=>
  (sLen Try.prog x5 t1).bind fun t11=>
  (sFA 0 t2).bind fun t12=>
  (sFA 1 t12).bind fun t13=>
  (sLd false 1 t13 m_5).bind fun t14=>
  (sLen Try.prog x7 t14).bind fun t15=>
  (sNe t11 t15).bind fun t16=>
  x1pc t16
  (some (AV.tup [(I 0),(I 10)],m_5))
  ((sFA 0 t2).bind fun t17=>
  (sFA 0 t17).bind fun t18=>
  (sLd false 1 t18 m_5).bind fun t19=>
  x1qd x1q0 1 8 t19 t19 (u,fc+13,20) m_5 fun t20 m_6=>
  xdl call hs u t1 t2 t20 (I 0) m_6 (fc+16))
noncomputable def xn1 (call:x1p9) (hs:FHs) (u:Nat) (t0 t1:AV) (m:Mem) (fc:Nat):O2:=
 sBox t0 (u,fc,2) m fun t2 m_1=>
  (sFA 0 t2).bind fun t6=>
  (sLd false 1 t6 m_1).bind fun t7=>
  (sFA 1 t2).bind fun t8=>
  (sLd false 1 t8 m_1).bind fun t9=>
  (sFA 2 t2).bind fun t10=>
  (sLd false 1 t10 m_1).bind fun t11=>
  (sLen Try.prog x5 t11).bind fun t12=>
  (x1pb call x4k [t7,t9,t12] m_1).bind fun p13=>
  (sNe p13.1 (I 0)).bind fun t15=>
  x1pc t15
  (some (p13.1,p13.2))
  ((sLd true 3 t2 p13.2).bind fun t17=>
  (x1pb call x4l [t17,t1] p13.2).bind fun p19=>
  some (p19.1,p19.2))
noncomputable def xn2 (call:x1p9) (hs:FHs) (u:Nat) (t0 t1 t2:AV) (m:Mem) (fc:Nat):O2:=
 (sSub t1 t2).bind fun t9=>
  (x1pb call x2x [t9] m).bind fun p10=>
  (sEq p10.1 t0).bind fun t12=>
  (bif sW t12 true then some (t1,p10.2) else some (U,p10.2)).bind fun p14=>
  (bif sW t12 true then some (t0,p14.2) else some (U,p14.2)).bind fun p15=>
  (bif sW t12 true then (sRem p14.1 p15.1).bind fun v=>some (v,p15.2) else some (U,p15.2)).bind fun p16=>
  (bif sW t12 true then some (t2,p16.2) else some (U,p16.2)).bind fun p17=>
  (bif sW t12 true then some (t0,p17.2) else some (U,p17.2)).bind fun p18=>
  (bif sW t12 true then (sRem p17.1 p18.1).bind fun v=>some (v,p18.2) else some (U,p18.2)).bind fun p19=>
  (bif sW t12 true then (sEq p16.1 p19.1).bind fun v=>some (v,p19.2) else some (U,p19.2)).bind fun p20=>
  (x1ph t12 p20.1 (B false)).bind fun t21=>
  (bif sW t21 false then some (t1,p20.2) else some (U,p20.2)).bind fun p23=>
  (bif sW t21 false then some (t2,p23.2) else some (U,p23.2)).bind fun p24=>
  (bif sW t21 false then (sSub p23.1 p24.1).bind fun v=>some (v,p24.2) else some (U,p24.2)).bind fun p25=>
  (bif sW t21 false then (x1pb call x2x [p25.1] p25.2).bind fun p=>some (p.1,p.2) else some (U,p25.2)).bind fun p26=>
  (bif sW t21 false then (sEq p26.1 (I 1)).bind fun v=>some (v,p26.2) else some (U,p26.2)).bind fun p27=>
  (bif sW t21 false then some (p27.1,p27.2) else some (U,p27.2)).bind fun p28=>
  (bif sW p28.1 true then some (t1,p28.2) else some (U,p28.2)).bind fun p29=>
  (bif sW p28.1 true then some (t0,p29.2) else some (U,p29.2)).bind fun p30=>
  (bif sW p28.1 true then (sQuo p29.1 p30.1).bind fun v=>some (v,p30.2) else some (U,p30.2)).bind fun p31=>
  (bif sW p28.1 true then some (t2,p31.2) else some (U,p31.2)).bind fun p32=>
  (bif sW p28.1 true then some (t0,p32.2) else some (U,p32.2)).bind fun p33=>
  (bif sW p28.1 true then (sQuo p32.1 p33.1).bind fun v=>some (v,p33.2) else some (U,p33.2)).bind fun p34=>
  (bif sW p28.1 true then (sEq p31.1 p34.1).bind fun v=>some (v,p34.2) else some (U,p34.2)).bind fun p35=>
  (bif sW t21 false then (x1ph p28.1 p35.1 (B false)).bind fun v=>some (v,p35.2) else some (U,p35.2)).bind fun p36=>
  (x1ph t21 (B true) p36.1).bind fun t37=>
  bif (Nat.ble 1 (mkM 0 [t9])&&true)&&true then
  some (t37,p36.2) else none
noncomputable def x7f (call:x1p9) (hs:FHs) (u:Nat) (t0:AV) (m:Mem) (fc:Nat):O2:=
 some (t0,m)
noncomputable def xdm (call:x1p9) (hs:FHs) (u:Nat) (t0:AV) (m:Mem) (fc:Nat):O2:=
 (sGe t0 (I 2048)).bind fun t8=>
  x1pc t8
  ((sSub t0 (I 4096)).bind fun t10=>
  x7f call hs u t10 m (fc+5))
  (x7f call hs u t0 m (fc+2))
noncomputable def xi8 (call:x1p9) (hs:FHs) (u:Nat) (t0:AV) (m:Mem) (fc:Nat):O2:=
 (sRem t0 (I 4096)).bind fun t4=>
  (sAdd t4 (I 4096)).bind fun t5=>
  (sRem t5 (I 4096)).bind fun t6=>
  xdm call hs u t6 m (fc+6)
noncomputable def xn3 (call:x1p9) (hs:FHs) (u:Nat) (t0 t1 t2:AV) (m:Mem) (fc:Nat):O2:=
 sBox t0 (u,fc,3) m fun t3 m_1=>
  (sFA 1 t3).bind fun t8=>
  (sLd false 1 t8 m_1).bind fun t9=>
  (sQuo t1 t9).bind fun t10=>
  (sFA 1 t3).bind fun t12=>
  (sLd false 1 t12 m_1).bind fun t13=>
  (sQuo t2 t13).bind fun t14=>
  (sSub t10 t14).bind fun t15=>
  (x1pb call x2d [t15] m_1).bind fun p16=>
  (sFA 1 t3).bind fun t18=>
  (sLd false 1 t18 p16.2).bind fun t19=>
  (sRem t1 t19).bind fun t20=>
  (sFA 1 t3).bind fun t22=>
  (sLd false 1 t22 p16.2).bind fun t23=>
  (sRem t2 t23).bind fun t24=>
  (sSub t20 t24).bind fun t25=>
  (x1pb call x2d [t25] p16.2).bind fun p26=>
  (sAdd p16.1 p26.1).bind fun t27=>
  (sEq t27 (I 1)).bind fun t28=>
  bif (Nat.ble 1 (mkM 0 [t15])&&true)&&(cAp (some m_1.next) (tR t18) (mkM 0 [t15])&&(cAp (some m_1.next) (tR t22) (mkM 0 [t15])&&true)) then
  some (t28,p26.2) else none
noncomputable def xn4 (call:x1p9) (hs:FHs) (u:Nat) (t0 t1 t2:AV) (m:Mem) (fc:Nat):O2:=
 sBox t0 (u,fc,3) m fun t3 m_1=>
  (sLt t2 t1).bind fun t9=>
  x1pc t9
  ((sLd true 3 t3 m_1).bind fun t10=>
  (x1pb call x6r [t10,t2,t1] m_1).bind fun p13=>
  (sNeg p13.1).bind fun t14=>
  some (t14,p13.2))
  ((sFA 2 t3).bind fun t15=>
  (sLd false 1 t15 m_1).bind fun t16=>
  (sIx 1 t16 t2).bind fun t18=>
  (sLd false 1 t18 m_1).bind fun t19=>
  (sFA 2 t3).bind fun t20=>
  (sLd false 1 t20 m_1).bind fun t21=>
  (sIx 1 t21 t1).bind fun t23=>
  (sLd false 1 t23 m_1).bind fun t24=>
  (sSub t19 t24).bind fun t25=>
  (x1pb call x4x [t25] m_1).bind fun p26=>
  some (p26.1,p26.2))
noncomputable def x2o (call:x1p9) (hs:FHs) (u:Nat) (t5:AV) (m:Mem) (fc:Nat):O2:=
 some (t5,m)
noncomputable def xdn (call:x1p9) (hs:FHs) (u:Nat) (rec0:AV→AV→AV→AV→AV→Mem→Nat→O2) (t1 t5 t10 t11 t12:AV) (m:Mem) (fc:Nat):O2:=
 (sAdd t12 (I 1)).bind fun t27=>
  rec0 t1 t5 t10 t11 t27 m (fc+2)
noncomputable def xi9 (call:x1p9) (hs:FHs) (u:Nat) (rec0:AV→AV→AV→AV→AV→Mem→Nat→O2) (t1 t5 t10 t11 t12:AV) (m:Mem) (fc:Nat):O2:=
 (sIx 4 t10 t12).bind fun t14=>
  (sLd true 4 t14 m).bind fun t15=>
  x1po x6 (u,fc+2,7) m fun t7 m_1=>
  sSt 4 t7 t15 m_1 fun m_2=>
  (sLd true 4 t7 m_2).bind fun t17=>
  (x1qz call hs 2 t1 [t17] m_2).bind fun p18=>
  x1pc p18.1
  ((sFA 0 t7).bind fun t20=>
  (sLd false 1 t20 p18.2).bind fun t21=>
  (sFA 1 t7).bind fun t22=>
  (sLd false 1 t22 p18.2).bind fun t23=>
  (x1pl x6e [(0,1,t21),(1,1,t23)]).bind fun t24=>
  x1pt x6e [(0,2,t24)] 1 2 (u,fc+13,25) p18.2 fun t25 m_3=>
  sApp 2 16 (u,fc+14,26) (elems m_3.get 2 t25) t5 m_3 fun t26 m_4=>
  xdn call hs u rec0 t1 t26 t10 t11 t12 m_4 (fc+16))
  (xdn call hs u rec0 t1 t5 t10 t11 t12 p18.2 (fc+7))
noncomputable def xn5 (call:x1p9) (hs:FHs) (u:Nat) (rec0:AV→AV→AV→AV→AV→Mem→Nat→O2) (t1 t5 t10 t11 t12:AV) (m:Mem) (fc:Nat):O2:=
 (sLt t12 t11).bind fun t13=>
  x1pc t13
  (xi9 call hs u rec0 t1 t5 t10 t11 t12 m (fc+1))
  (x2o call hs u t5 m (fc+1))
noncomputable def x7g (call:x1p9) (hs:FHs) (u:Nat):Nat→AV→AV→AV→AV→AV→Mem→Nat→O2
 | 0=>fun _ _ _ _ _ _ _=>none
 | n+1=>fun t1 t5 t10 t11 t12 m fc=>xn5 call hs u (x7g call hs u n) t1 t5 t10 t11 t12 m fc
noncomputable def xia (call:x1p9) (hs:FHs) (u:Nat) (t1 t2 t5:AV) (m:Mem) (fc:Nat):O2:=
 (sFA 0 t2).bind fun t8=>
  (sFA 1 t8).bind fun t9=>
  (sLd false 1 t9 m).bind fun t10=>
  (sLen Try.prog x7 t10).bind fun t11=>
  x7g call hs u NN t1 t5 t10 t11 (I 0) m (fc+5)
noncomputable def xn6 (call:x1p9) (hs:FHs) (u:Nat) (t0 t1:AV) (m:Mem) (fc:Nat):O2:=
 sBox t0 (u,fc,2) m fun t2 m_5=>
  xia call hs u t1 t2 nilS m_5 (fc+3)
noncomputable def xib (call:x1p9) (hs:FHs) (u:Nat) (t0 t1:AV) (m:Mem) (fc:Nat):O2:=
 sBox t0 (u,fc,2) m fun t2 m_1=>
  (sFA 1 t2).bind fun t6=>
  (sLd false 1 t6 m_1).bind fun t7=>
  (sIx 1 t1 t7).bind fun t8=>
  (sLd false 1 t8 m_1).bind fun t9=>
  (sFA 0 t2).bind fun t11=>
  (sLd false 1 t11 m_1).bind fun t12=>
  (sIx 1 t1 t12).bind fun t13=>
  (sLd false 1 t13 m_1).bind fun t14=>
  (sSub t9 t14).bind fun t15=>
  (sFA 2 t2).bind fun t16=>
  (sLd false 1 t16 m_1).bind fun t17=>
  (sAdd t15 t17).bind fun t18=>
  some (t18,m_1)
noncomputable def xic (call:x1p9) (hs:FHs) (u:Nat) (t0:AV) (m:Mem) (fc:Nat):O2:=
 (x1pb call xb [t0,(I (-100000000)),(I 100000000)] m).bind fun p4=>
  some (p4.1,p4.2)
noncomputable def x7h (call:x1p9) (hs:FHs) (u:Nat) (t0:AV) (m:Mem) (fc:Nat):O2:=
 some (t0,m)
noncomputable def xdo (call:x1p9) (hs:FHs) (u:Nat) (t0 t1:AV) (m:Mem) (fc:Nat):O2:=
 (sLt t0 (I 0)).bind fun t9=>
  x1pc t9
  ((sAdd t0 t1).bind fun t12=>
  x7h call hs u t12 m (fc+6))
  (x7h call hs u t0 m (fc+2))
noncomputable def xid (call:x1p9) (hs:FHs) (u:Nat) (t0 t1:AV) (m:Mem) (fc:Nat):O2:=
 (sRem t0 t1).bind fun t7=>
  xdo call hs u t7 t1 m (fc+5)
noncomputable def xie (call:x1p9) (hs:FHs) (u:Nat) (t0 t1:AV) (m:Mem) (fc:Nat):O2:=
 sBox t0 (u,fc,2) m fun t2 m_1=>
  (sFA 1 t2).bind fun t6=>
  (sLd false 1 t6 m_1).bind fun t7=>
  (sIx 1 t1 t7).bind fun t8=>
  (sLd false 1 t8 m_1).bind fun t9=>
  (sFA 0 t2).bind fun t11=>
  (sLd false 1 t11 m_1).bind fun t12=>
  (sIx 1 t1 t12).bind fun t13=>
  (sLd false 1 t13 m_1).bind fun t14=>
  (sSub t9 t14).bind fun t15=>
  (sFA 2 t2).bind fun t16=>
  (sLd false 1 t16 m_1).bind fun t17=>
  (sAdd t15 t17).bind fun t18=>
  some (t18,m_1)
noncomputable def xn7 (call:x1p9) (hs:FHs) (u:Nat) (t0 t1:AV) (m:Mem) (fc:Nat):O2:=
 sBox t0 (u,fc,2) m fun t2 m_1=>
  (sLd false 1 t1 m_1).bind fun t4=>
  (sFA 0 t2).bind fun t5=>
  (sLd false 1 t5 m_1).bind fun t6=>
  (sIx 1 t4 t6).bind fun t7=>
  (sLd false 1 t7 m_1).bind fun t8=>
  (sLd false 1 t1 m_1).bind fun t9=>
  (sFA 1 t2).bind fun t10=>
  (sLd false 1 t10 m_1).bind fun t11=>
  (sIx 1 t9 t11).bind fun t12=>
  (sLd false 1 t12 m_1).bind fun t13=>
  (sNe t8 t13).bind fun t14=>
  some (t14,m_1)
noncomputable def x6h (call:x1p9) (hs:FHs) (u:Nat) (m:Mem) (fc:Nat):O2:=
 some (AV.tup [(I 0),(I 0)],m)
noncomputable def xn8 (call:x1p9) (hs:FHs) (u:Nat) (rec0:AV→AV→AV→AV→Mem→Nat→O2) (t1 t17 t18 t19:AV) (m:Mem) (fc:Nat):O2:=
 (sLt t19 t18).bind fun t20=>
  x1pc t20
  ((sIx 4 t17 t19).bind fun t22=>
  (sLd true 4 t22 m).bind fun t23=>
  x1po x6 (u,fc+4,5) m fun t5 m_1=>
  sSt 4 t5 t23 m_1 fun m_2=>
  (sFA 0 t5).bind fun t25=>
  (sLd false 1 t25 m_2).bind fun t26=>
  (sFA 0 t1).bind fun t27=>
  (sLd false 1 t27 m_2).bind fun t28=>
  (sSub t28 (I 1)).bind fun t29=>
  (x1pb call xe [t26,(I 0),t29] m_2).bind fun p30=>
  (sNot p30.1).bind fun t31=>
  (bif sW t31 false then (sFA 1 t5).bind fun v=>some (v,p30.2) else some (U,p30.2)).bind fun p33=>
  (bif sW t31 false then (sLd false 1 p33.1 p33.2).bind fun v=>some (v,p33.2) else some (U,p33.2)).bind fun p34=>
  (bif sW t31 false then (sFA 0 t1).bind fun v=>some (v,p34.2) else some (U,p34.2)).bind fun p35=>
  (bif sW t31 false then (sLd false 1 p35.1 p35.2).bind fun v=>some (v,p35.2) else some (U,p35.2)).bind fun p36=>
  (bif sW t31 false then (sSub p36.1 (I 1)).bind fun v=>some (v,p36.2) else some (U,p36.2)).bind fun p37=>
  (bif sW t31 false then (x1pb call xe [p34.1,(I 0),p37.1] p37.2).bind fun p=>some (p.1,p.2) else some (U,p37.2)).bind fun p38=>
  (bif sW t31 false then (sNot p38.1).bind fun v=>some (v,p38.2) else some (U,p38.2)).bind fun p39=>
  (x1ph t31 (B true) p39.1).bind fun t40=>
  x1pc t40
  (some (AV.tup [t19,(I 6)],p39.2))
  ((sFA 0 t5).bind fun t43=>
  (sLd false 1 t43 p39.2).bind fun t44=>
  (sFA 1 t5).bind fun t45=>
  (sLd false 1 t45 p39.2).bind fun t46=>
  (sEq t44 t46).bind fun t47=>
  x1pc t47
  (some (AV.tup [t19,(I 3)],p39.2))
  ((sFA 2 t5).bind fun t50=>
  (sLd false 1 t50 p39.2).bind fun t51=>
  (x1pb call xe [t51,(I (-1000)),(I 1000)] p39.2).bind fun p52=>
  (sNot p52.1).bind fun t53=>
  (bif sW t53 false then (sFA 3 t5).bind fun v=>some (v,p52.2) else some (U,p52.2)).bind fun p55=>
  (bif sW t53 false then (sLd false 1 p55.1 p55.2).bind fun v=>some (v,p55.2) else some (U,p55.2)).bind fun p56=>
  (bif sW t53 false then (x1pb call x4m [p56.1] p56.2).bind fun p=>some (p.1,p.2) else some (U,p56.2)).bind fun p57=>
  (bif sW t53 false then (sNot p57.1).bind fun v=>some (v,p57.2) else some (U,p57.2)).bind fun p58=>
  (x1ph t53 (B true) p58.1).bind fun t59=>
  x1pc t59
  (some (AV.tup [t19,(I 2)],p58.2))
  ((sAdd t19 (I 1)).bind fun t61=>
  rec0 t1 t17 t18 t61 p58.2 (fc+43)))))
  (x6h call hs u m (fc+1))
noncomputable def x7i (call:x1p9) (hs:FHs) (u:Nat):Nat→AV→AV→AV→AV→Mem→Nat→O2
 | 0=>fun _ _ _ _ _ _=>none
 | n+1=>fun t1 t17 t18 t19 m fc=>xn8 call hs u (x7i call hs u n) t1 t17 t18 t19 m fc
noncomputable def xif (call:x1p9) (hs:FHs) (u:Nat) (t1:AV) (m:Mem) (fc:Nat):O2:=
 (sFA 1 t1).bind fun t16=>
  (sLd false 1 t16 m).bind fun t17=>
  (sLen Try.prog x7 t17).bind fun t18=>
  x7i call hs u NN t1 t17 t18 (I 0) m (fc+4)
noncomputable def xn9 (call:x1p9) (hs:FHs) (u:Nat) (t0:AV) (m:Mem) (fc:Nat):O2:=
 sBox t0 (u,fc,1) m fun t1 m_3=>
  (sFA 0 t1).bind fun t7=>
  (sLd false 1 t7 m_3).bind fun t8=>
  (x1pb call xe [t8,(I 0),(I 200)] m_3).bind fun p9=>
  (sNot p9.1).bind fun t10=>
  x1pc t10
  (some (AV.tup [(I 0),(I 2)],p9.2))
  ((sFA 1 t1).bind fun t12=>
  (sLd false 1 t12 p9.2).bind fun t13=>
  (sLen Try.prog x7 t13).bind fun t14=>
  (sGt t14 (I 600)).bind fun t15=>
  x1pc t15
  (some (AV.tup [(I 0),(I 8)],p9.2))
  (xif call hs u t1 p9.2 (fc+13)))
noncomputable def xw (call:x1p9) (hs:FHs) (u:Nat) (t3:AV) (m:Mem) (fc:Nat):O2:=
 some (t3,m)
noncomputable def x22 (call:x1p9) (hs:FHs) (u:Nat) (rec0:AV→AV→AV→AV→Mem→Nat→O2) (t3 t28 t29 t30:AV) (m:Mem) (fc:Nat):O2:=
 (sAdd t30 (I 1)).bind fun t130=>
  rec0 t3 t28 t29 t130 m (fc+2)
noncomputable def x5g (call:x1p9) (hs:FHs) (u:Nat) (rec0:AV→AV→AV→AV→Mem→Nat→O2) (t3 t4 t5 t28 t29 t30:AV) (m:Mem) (fc:Nat):O2:=
 (sNil t3).bind fun t61=>
  (sFA 4 t61).bind fun t62=>
  (sLd false 1 t62 m).bind fun t63=>
  (sFA 0 t5).bind fun t64=>
  (sLd false 1 t64 m).bind fun t65=>
  (sIx 1 t63 t65).bind fun t66=>
  (sLd false 1 t66 m).bind fun t67=>
  (sNil t3).bind fun t69=>
  (sFA 2 t69).bind fun t70=>
  (sLd false 1 t70 m).bind fun t71=>
  (sIx 1 t71 t4).bind fun t73=>
  (sLd false 1 t73 m).bind fun t74=>
  (sSub t67 t74).bind fun t75=>
  (sIx 1 t63 t65).bind fun t76=>
  sSt 1 t76 t75 m fun m_1=>
  (sNil t3).bind fun t78=>
  (sFA 4 t78).bind fun t79=>
  (sLd false 1 t79 m_1).bind fun t80=>
  (sFA 1 t5).bind fun t81=>
  (sLd false 1 t81 m_1).bind fun t82=>
  (sIx 1 t80 t82).bind fun t83=>
  (sLd false 1 t83 m_1).bind fun t84=>
  (sNil t3).bind fun t86=>
  (sFA 2 t86).bind fun t87=>
  (sLd false 1 t87 m_1).bind fun t88=>
  (sIx 1 t88 t4).bind fun t90=>
  (sLd false 1 t90 m_1).bind fun t91=>
  (sAdd t84 t91).bind fun t92=>
  (sIx 1 t80 t82).bind fun t93=>
  sSt 1 t93 t92 m_1 fun m_2=>
  (sNil t3).bind fun t95=>
  (sFA 5 t95).bind fun t96=>
  (sLd false 1 t96 m_2).bind fun t97=>
  (sFA 0 t5).bind fun t98=>
  (sLd false 1 t98 m_2).bind fun t99=>
  (sNil t3).bind fun t101=>
  (sFA 5 t101).bind fun t102=>
  (sLd false 1 t102 m_2).bind fun t103=>
  (sFA 1 t5).bind fun t104=>
  (sLd false 1 t104 m_2).bind fun t105=>
  (sNil t3).bind fun t107=>
  (sFA 5 t107).bind fun t108=>
  (sLd false 1 t108 m_2).bind fun t109=>
  (sFA 0 t5).bind fun t110=>
  (sLd false 1 t110 m_2).bind fun t111=>
  (sIx 1 t109 t111).bind fun t112=>
  (sLd false 1 t112 m_2).bind fun t113=>
  x1pt x1q0 [(0,1,t4)] 1 1 (u,fc+57,115) m_2 fun t115 m_3=>
  sApp 1 8 (u,fc+58,116) (elems m_3.get 1 t115) t113 m_3 fun t116 m_4=>
  (sNil t3).bind fun t118=>
  (sFA 5 t118).bind fun t119=>
  (sLd false 1 t119 m_4).bind fun t120=>
  (sFA 1 t5).bind fun t121=>
  (sLd false 1 t121 m_4).bind fun t122=>
  (sIx 1 t120 t122).bind fun t123=>
  (sLd false 1 t123 m_4).bind fun t124=>
  x1pt x1q0 [(0,1,t4)] 1 1 (u,fc+68,126) m_4 fun t126 m_5=>
  sApp 1 8 (u,fc+69,127) (elems m_5.get 1 t126) t124 m_5 fun t127 m_6=>
  (sIx 1 t97 t99).bind fun t128=>
  sSt 1 t128 t116 m_6 fun m_7=>
  (sIx 1 t103 t105).bind fun t129=>
  sSt 1 t129 t127 m_7 fun m_8=>
  bif (x1pd (tR t96) (some [],some [(u,fc+57,115)])&&(x1pd (tR t98) (some [],some [(u,fc+57,115)])&&(x1pd (tR t102) (some [],some [(u,fc+57,115)])&&(x1pd (tR t104) (some [],some [(u,fc+57,115)])&&(x1pd (tR t108) (some [],some [(u,fc+57,115)])&&(x1pd (tR t110) (some [],some [(u,fc+57,115)])&&(x1pd (tR t112) (some [],some [(u,fc+57,115)])&&(x1pd (tR t96) (tX t115,tA (u,fc+58,116) t113)&&(x1pd (tR t98) (tX t115,tA (u,fc+58,116) t113)&&(x1pd (tR t102) (tX t115,tA (u,fc+58,116) t113)&&(x1pd (tR t104) (tX t115,tA (u,fc+58,116) t113)&&(x1pd (some [],some [(u,fc+57,115)]) (tR t119)&&(x1pd (tX t115,tA (u,fc+58,116) t113) (tR t119)&&(x1pd (some [],some [(u,fc+57,115)]) (tR t121)&&(x1pd (tX t115,tA (u,fc+58,116) t113) (tR t121)&&(x1pd (some [],some [(u,fc+57,115)]) (tR t123)&&(x1pd (tX t115,tA (u,fc+58,116) t113) (tR t123)&&(x1pd (tR t96) (some [],some [(u,fc+68,126)])&&(x1pd (tR t98) (some [],some [(u,fc+68,126)])&&(x1pd (tR t102) (some [],some [(u,fc+68,126)])&&(x1pd (tR t104) (some [],some [(u,fc+68,126)])&&(x1pd (tR t108) (some [],some [(u,fc+68,126)])&&(x1pd (tR t110) (some [],some [(u,fc+68,126)])&&(x1pd (tR t112) (some [],some [(u,fc+68,126)])&&(x1pd (some [],some [(u,fc+57,115)]) (some [],some [(u,fc+68,126)])&&(x1pd (tX t115,tA (u,fc+58,116) t113) (some [],some [(u,fc+68,126)])&&(x1pd (tR t119) (some [],some [(u,fc+68,126)])&&(x1pd (tR t121) (some [],some [(u,fc+68,126)])&&(x1pd (tR t123) (some [],some [(u,fc+68,126)])&&(x1pd (tR t96) (tX t126,tA (u,fc+69,127) t124)&&(x1pd (tR t98) (tX t126,tA (u,fc+69,127) t124)&&(x1pd (tR t102) (tX t126,tA (u,fc+69,127) t124)&&(x1pd (tR t104) (tX t126,tA (u,fc+69,127) t124)&&(x1pd (tR t104) (tS t128)&&true)))))))))))))))))))))))))))))))))) then
  x22 call hs u rec0 t3 t28 t29 t30 m_8 (fc+74) else none
noncomputable def xdp (call:x1p9) (hs:FHs) (u:Nat) (rec0:AV→AV→AV→AV→Mem→Nat→O2) (t3 t4 t5 t28 t29 t30:AV) (m:Mem) (fc:Nat):O2:=
 (sFA 2 t5).bind fun t36=>
  (sLd false 1 t36 m).bind fun t37=>
  (sGt t37 (I 0)).bind fun t38=>
  x1pc t38
  ((sNil t3).bind fun t40=>
  (sFA 2 t40).bind fun t41=>
  (sLd false 1 t41 m).bind fun t42=>
  (sFA 3 t5).bind fun t44=>
  (sLd false 1 t44 m).bind fun t45=>
  (sIx 1 t42 t4).bind fun t46=>
  sSt 1 t46 t45 m fun m_9=>
  x5g call hs u rec0 t3 t4 t5 t28 t29 t30 m_9 (fc+13))
  ((sFA 2 t5).bind fun t48=>
  (sLd false 1 t48 m).bind fun t49=>
  (sLt t49 (I 0)).bind fun t50=>
  x1pc t50
  ((sNil t3).bind fun t52=>
  (sFA 2 t52).bind fun t53=>
  (sLd false 1 t53 m).bind fun t54=>
  (sFA 3 t5).bind fun t56=>
  (sLd false 1 t56 m).bind fun t57=>
  (sNeg t57).bind fun t58=>
  (sIx 1 t54 t4).bind fun t59=>
  sSt 1 t59 t58 m fun m_10=>
  x5g call hs u rec0 t3 t4 t5 t28 t29 t30 m_10 (fc+18))
  (x5g call hs u rec0 t3 t4 t5 t28 t29 t30 m (fc+8)))
noncomputable def xas (call:x1p9) (hs:FHs) (u:Nat) (rec0:AV→AV→AV→AV→Mem→Nat→O2) (t3 t28 t29 t30:AV) (m:Mem) (fc:Nat):O2:=
 (sIx 4 t28 t30).bind fun t33=>
  (sLd true 4 t33 m).bind fun t34=>
  x1po x6 (u,fc+3,5) m fun t5 m_11=>
  sSt 4 t5 t34 m_11 fun m_12=>
  xdp call hs u rec0 t3 t30 t5 t28 t29 t30 m_12 (fc+6)
noncomputable def xdq (call:x1p9) (hs:FHs) (u:Nat) (rec0:AV→AV→AV→AV→Mem→Nat→O2) (t3 t28 t29 t30:AV) (m:Mem) (fc:Nat):O2:=
 (sLt t30 t29).bind fun t31=>
  x1pc t31
  (xas call hs u rec0 t3 t28 t29 t30 m (fc+1))
  (xw call hs u t3 m (fc+1))
noncomputable def x23 (call:x1p9) (hs:FHs) (u:Nat):Nat→AV→AV→AV→AV→Mem→Nat→O2
 | 0=>fun _ _ _ _ _ _=>none
 | n+1=>fun t3 t28 t29 t30 m fc=>xdq call hs u (x23 call hs u n) t3 t28 t29 t30 m fc
noncomputable def xdr (call:x1p9) (hs:FHs) (u:Nat) (t1 t3:AV) (m:Mem) (fc:Nat):O2:=
 (sFA 0 t1).bind fun t26=>
  (sFA 1 t26).bind fun t27=>
  (sLd false 1 t27 m).bind fun t28=>
  (sLen Try.prog x7 t28).bind fun t29=>
  x23 call hs u NN t3 t28 t29 (I 0) m (fc+5)
noncomputable def xig (call:x1p9) (hs:FHs) (u:Nat) (t0:AV) (m:Mem) (fc:Nat):O2:=
 sBox t0 (u,fc,1) m fun t1 m_13=>
  (sLd true 2 t1 m_13).bind fun t6=>
  (sFA 0 t1).bind fun t7=>
  (sFA 1 t7).bind fun t8=>
  (sLd false 1 t8 m_13).bind fun t9=>
  (sLen Try.prog x7 t9).bind fun t10=>
  x1qd x1q0 1 8 t10 t10 (u,fc+7,11) m_13 fun t11 m_14=>
  (sFA 0 t1).bind fun t12=>
  (sFA 0 t12).bind fun t13=>
  (sLd false 1 t13 m_14).bind fun t14=>
  x1qd x1q0 1 8 t14 t14 (u,fc+11,15) m_14 fun t15 m_15=>
  (sFA 0 t1).bind fun t16=>
  (sFA 0 t16).bind fun t17=>
  (sLd false 1 t17 m_15).bind fun t18=>
  x1qd x1q0 1 8 t18 t18 (u,fc+15,19) m_15 fun t19 m_16=>
  (sFA 0 t1).bind fun t20=>
  (sFA 0 t20).bind fun t21=>
  (sLd false 1 t21 m_16).bind fun t22=>
  x1qd x18 1 24 t22 t22 (u,fc+19,23) m_16 fun t23 m_17=>
  (x1pl xna [(0,2,t6),(2,1,t11),(3,1,t15),(4,1,t19),(5,1,t23)]).bind fun t24=>
  sBox t24 (u,fc+21,25) m_17 fun t25 m_18=>
  bif (x1pd (tR t1) (some [],some [(u,fc+7,11)])&&(x1pd (some [],some [(u,fc+7,11)]) (tR t13)&&(x1pd (tR t1) (some [],some [(u,fc+11,15)])&&(x1pd (tR t8) (some [],some [(u,fc+11,15)])&&(x1pd (some [],some [(u,fc+7,11)]) (some [],some [(u,fc+11,15)])&&(x1pd (some [],some [(u,fc+7,11)]) (tR t17)&&(x1pd (some [],some [(u,fc+11,15)]) (tR t17)&&(x1pd (tR t1) (some [],some [(u,fc+15,19)])&&(x1pd (tR t8) (some [],some [(u,fc+15,19)])&&(x1pd (some [],some [(u,fc+7,11)]) (some [],some [(u,fc+15,19)])&&(x1pd (tR t13) (some [],some [(u,fc+15,19)])&&(x1pd (some [],some [(u,fc+11,15)]) (some [],some [(u,fc+15,19)])&&(x1pd (some [],some [(u,fc+7,11)]) (tR t21)&&(x1pd (some [],some [(u,fc+11,15)]) (tR t21)&&(x1pd (some [],some [(u,fc+15,19)]) (tR t21)&&(x1pd (tR t1) (some [],some [(u,fc+19,23)])&&(x1pd (tR t8) (some [],some [(u,fc+19,23)])&&(x1pd (some [],some [(u,fc+7,11)]) (some [],some [(u,fc+19,23)])&&(x1pd (tR t13) (some [],some [(u,fc+19,23)])&&(x1pd (some [],some [(u,fc+11,15)]) (some [],some [(u,fc+19,23)])&&(x1pd (tR t17) (some [],some [(u,fc+19,23)])&&(x1pd (some [],some [(u,fc+15,19)]) (some [],some [(u,fc+19,23)])&&true)))))))))))))))))))))) then
  xdr call hs u t1 t25 m_18 (fc+23) else none
noncomputable def x2p (call:x1p9) (hs:FHs) (u:Nat) (m:Mem) (fc:Nat):O2:=
 some ((I (-1)),m)
noncomputable def x3x (call:x1p9) (hs:FHs) (u:Nat) (rec0:AV→AV→AV→AV→Mem→Nat→O2) (t0 t1 t7 t8:AV) (m:Mem) (fc:Nat):O2:=
 (sLt t8 t7).bind fun t9=>
  x1pc t9
  ((sIx 1 t0 t8).bind fun t14=>
  (sLd false 1 t14 m).bind fun t15=>
  (x1qz call hs 2 t1 [t15] m).bind fun p16=>
  x1pc p16.1
  (some (t8,p16.2))
  ((sAdd t8 (I 1)).bind fun t18=>
  rec0 t0 t1 t7 t18 p16.2 (fc+11)))
  (x2p call hs u m (fc+1))
noncomputable def xq (call:x1p9) (hs:FHs) (u:Nat):Nat→AV→AV→AV→AV→Mem→Nat→O2
 | 0=>fun _ _ _ _ _ _=>none
 | n+1=>fun t0 t1 t7 t8 m fc=>x3x call hs u (xq call hs u n) t0 t1 t7 t8 m fc
noncomputable def x7j (call:x1p9) (hs:FHs) (u:Nat) (t0 t1:AV) (m:Mem) (fc:Nat):O2:=
 (sLen Try.prog x5 t0).bind fun t7=>
  xq call hs u NN t0 t1 t7 (I 0) m (fc+3)
noncomputable def xat (call:x1p9) (hs:FHs) (u:Nat) (t0 t1:AV) (m:Mem) (fc:Nat):O2:=
 x7j call hs u t0 t1 m (fc+1)
noncomputable def xih (call:x1p9) (hs:FHs) (u:Nat) (t0:AV) (m:Mem) (fc:Nat):O2:=
 (sGt t0 (I 0)).bind fun t4=>
  some (t4,m)
noncomputable def xds (call:x1p9) (hs:FHs) (u:Nat) (rec0:AV→AV→AV→AV→AV→AV→Mem→Nat→O2) (t0 t4 t5 t136 t137 t138:AV) (m:Mem) (fc:Nat):O2:=
 (sLt t138 t137).bind fun t139=>
  x1pc t139
  ((sIx 1 t136 t138).bind fun t141=>
  (sLd false 1 t141 m).bind fun t142=>
  (sNil t0).bind fun t144=>
  (sFA 3 t144).bind fun t145=>
  (sLd false 1 t145 m).bind fun t146=>
  (sIx 1 t146 t138).bind fun t148=>
  (sLd false 1 t148 m).bind fun t149=>
  (sFA 0 t4).bind fun t151=>
  (sLd false 1 t151 m).bind fun t152=>
  (sIx 1 t152 t5).bind fun t154=>
  (sLd false 1 t154 m).bind fun t155=>
  (sMin t142 t155).bind fun t156=>
  (sAdd t149 t156).bind fun t157=>
  (sIx 1 t146 t138).bind fun t158=>
  sSt 1 t158 t157 m fun m_1=>
  (sAdd t138 (I 1)).bind fun t159=>
  rec0 t0 t4 t5 t136 t137 t159 m_1 (fc+25))
  ((some (AV.tup [],m)))
noncomputable def x3y (call:x1p9) (hs:FHs) (u:Nat):Nat→AV→AV→AV→AV→AV→AV→Mem→Nat→O2
 | 0=>fun _ _ _ _ _ _ _ _=>none
 | n+1=>fun t0 t4 t5 t136 t137 t138 m fc=>xds call hs u (x3y call hs u n) t0 t4 t5 t136 t137 t138 m fc
noncomputable def x3z (call:x1p9) (hs:FHs) (u:Nat) (t0 t1 t4 t5 t8:AV) (m:Mem) (fc:Nat):O2:=
 (sNil t0).bind fun t116=>
  (sFA 4 t116).bind fun t117=>
  (sLd false 1 t117 m).bind fun t118=>
  (sIx 1 t118 t1).bind fun t120=>
  (sLd false 1 t120 m).bind fun t121=>
  (sSub t121 t8).bind fun t123=>
  (sIx 1 t118 t1).bind fun t124=>
  sSt 1 t124 t123 m fun m_2=>
  (sNil t0).bind fun t126=>
  (sFA 4 t126).bind fun t127=>
  (sLd false 1 t127 m_2).bind fun t128=>
  (sIx 1 t128 t5).bind fun t130=>
  (sLd false 1 t130 m_2).bind fun t131=>
  (sAdd t131 t8).bind fun t133=>
  (sIx 1 t128 t5).bind fun t134=>
  sSt 1 t134 t133 m_2 fun m_3=>
  (sFA 0 t4).bind fun t135=>
  (sLd false 1 t135 m_3).bind fun t136=>
  (sLen Try.prog x5 t136).bind fun t137=>
  x3y call hs u NN t0 t4 t5 t136 t137 (I 0) m_3 (fc+26)
noncomputable def xdt (call:x1p9) (hs:FHs) (u:Nat) (rec1:AV→AV→AV→AV→AV→AV→Mem→Nat→O2) (t0 t1 t4 t5 t8 t10:AV) (m:Mem) (fc:Nat):O2:=
 (sNe t10 t1).bind fun t87=>
  x1pc t87
  ((sNil t0).bind fun t94=>
  (sFA 2 t94).bind fun t95=>
  (sLd false 1 t95 m).bind fun t96=>
  (sFA 1 t4).bind fun t97=>
  (sLd false 1 t97 m).bind fun t98=>
  (sIx 5 t98 t10).bind fun t100=>
  (sFA 0 t100).bind fun t101=>
  (sLd false 1 t101 m).bind fun t102=>
  (sIx 1 t96 t102).bind fun t103=>
  (sLd false 1 t103 m).bind fun t104=>
  (sFA 1 t4).bind fun t105=>
  (sLd false 1 t105 m).bind fun t106=>
  (sIx 5 t106 t10).bind fun t108=>
  (sFA 2 t108).bind fun t109=>
  (sLd false 1 t109 m).bind fun t110=>
  (sMul t110 t8).bind fun t112=>
  (sAdd t104 t112).bind fun t113=>
  (sIx 1 t96 t102).bind fun t114=>
  sSt 1 t114 t113 m fun m_4=>
  (sFA 2 t4).bind fun t88=>
  (sLd false 1 t88 m_4).bind fun t89=>
  (sIx 1 t89 t10).bind fun t91=>
  (sLd false 1 t91 m_4).bind fun t92=>
  rec1 t0 t1 t4 t5 t8 t92 m_4 (fc+32))
  (x3z call hs u t0 t1 t4 t5 t8 m (fc+3))
noncomputable def x40 (call:x1p9) (hs:FHs) (u:Nat):Nat→AV→AV→AV→AV→AV→AV→Mem→Nat→O2
 | 0=>fun _ _ _ _ _ _ _ _=>none
 | n+1=>fun t0 t1 t4 t5 t8 t10 m fc=>xdt call hs u (x40 call hs u n) t0 t1 t4 t5 t8 t10 m fc
noncomputable def x2q (call:x1p9) (hs:FHs) (u:Nat) (t0 t1 t4 t5 t8:AV) (m:Mem) (fc:Nat):O2:=
 x40 call hs u NN t0 t1 t4 t5 t8 t5 m (fc+2)
noncomputable def xdu (call:x1p9) (hs:FHs) (u:Nat) (rec2:AV→AV→AV→AV→AV→AV→Mem→Nat→O2) (t0 t1 t4 t5 t8 t9:AV) (m:Mem) (fc:Nat):O2:=
 (sNe t9 t1).bind fun t70=>
  x1pc t70
  ((sFA 1 t4).bind fun t77=>
  (sLd false 1 t77 m).bind fun t78=>
  (sIx 5 t78 t9).bind fun t80=>
  (sFA 3 t80).bind fun t81=>
  (sLd false 1 t81 m).bind fun t82=>
  (sMin t8 t82).bind fun t83=>
  (sFA 2 t4).bind fun t71=>
  (sLd false 1 t71 m).bind fun t72=>
  (sIx 1 t72 t9).bind fun t74=>
  (sLd false 1 t74 m).bind fun t75=>
  rec2 t0 t1 t4 t5 t83 t75 m (fc+18))
  (x2q call hs u t0 t1 t4 t5 t8 m (fc+3))
noncomputable def x41 (call:x1p9) (hs:FHs) (u:Nat):Nat→AV→AV→AV→AV→AV→AV→Mem→Nat→O2
 | 0=>fun _ _ _ _ _ _ _ _=>none
 | n+1=>fun t0 t1 t4 t5 t8 t9 m fc=>xdu call hs u (x41 call hs u n) t0 t1 t4 t5 t8 t9 m fc
noncomputable def xdv (call:x1p9) (hs:FHs) (u:Nat) (t0 t1 t4 t5 t8:AV) (m:Mem) (fc:Nat):O2:=
 x41 call hs u NN t0 t1 t4 t5 t8 t5 m (fc+2)
noncomputable def x1k (call:x1p9) (hs:FHs) (u:Nat) (t0 t1 t4 t5:AV) (m:Mem) (fc:Nat):O2:=
 (sNil t0).bind fun t52=>
  (sFA 4 t52).bind fun t53=>
  (sLd false 1 t53 m).bind fun t54=>
  (sIx 1 t54 t1).bind fun t56=>
  (sLd false 1 t56 m).bind fun t57=>
  (sNil t0).bind fun t59=>
  (sFA 4 t59).bind fun t60=>
  (sLd false 1 t60 m).bind fun t61=>
  (sIx 1 t61 t5).bind fun t63=>
  (sLd false 1 t63 m).bind fun t64=>
  (sNeg t64).bind fun t65=>
  (sMin t57 t65).bind fun t66=>
  xdv call hs u t0 t1 t4 t5 t66 m (fc+17)
noncomputable def x42 (call:x1p9) (hs:FHs) (u:Nat) (rec3:AV→AV→AV→AV→AV→AV→AV→Mem→Nat→O2) (t0 t1 t4 t5 t17 t18 t19:AV) (m:Mem) (fc:Nat):O2:=
 (sAdd t19 (I 1)).bind fun t50=>
  rec3 t0 t1 t4 t5 t17 t18 t50 m (fc+2)
noncomputable def xau (call:x1p9) (hs:FHs) (u:Nat) (rec3:AV→AV→AV→AV→AV→AV→AV→Mem→Nat→O2) (t0 t1 t4 t5 t17 t18 t19:AV) (m:Mem) (fc:Nat):O2:=
 (sIx 1 t17 t19).bind fun t22=>
  (sLd false 1 t22 m).bind fun t23=>
  (sNil t0).bind fun t25=>
  (sFA 4 t25).bind fun t26=>
  (sLd false 1 t26 m).bind fun t27=>
  (sIx 1 t27 t19).bind fun t29=>
  (sLd false 1 t29 m).bind fun t30=>
  (sLt t30 (I 0)).bind fun t31=>
  (bif sW t31 true then some (t23,m) else some (U,m)).bind fun p33=>
  (bif sW t31 true then (sLt p33.1 (I 1152921504606846976)).bind fun v=>some (v,p33.2) else some (U,p33.2)).bind fun p34=>
  (x1ph t31 p34.1 (B false)).bind fun t35=>
  (bif sW t35 true then some (t5,p34.2) else some (U,p34.2)).bind fun p37=>
  (bif sW t35 true then (sLt p37.1 (I 0)).bind fun v=>some (v,p37.2) else some (U,p37.2)).bind fun p38=>
  (bif sW t35 true then some (p38.1,p38.2) else some (U,p38.2)).bind fun p39=>
  (bif sW p39.1 false then some (t23,p39.2) else some (U,p39.2)).bind fun p40=>
  (bif sW p39.1 false then (sFA 0 t4).bind fun v=>some (v,p40.2) else some (U,p40.2)).bind fun p41=>
  (bif sW p39.1 false then (sLd false 1 p41.1 p41.2).bind fun v=>some (v,p41.2) else some (U,p41.2)).bind fun p42=>
  (bif sW p39.1 false then some (t5,p42.2) else some (U,p42.2)).bind fun p43=>
  (bif sW p39.1 false then (sIx 1 p42.1 p43.1).bind fun v=>some (v,p43.2) else some (U,p43.2)).bind fun p44=>
  (bif sW p39.1 false then (sLd false 1 p44.1 p44.2).bind fun v=>some (v,p44.2) else some (U,p44.2)).bind fun p45=>
  (bif sW p39.1 false then (sLt p40.1 p45.1).bind fun v=>some (v,p45.2) else some (U,p45.2)).bind fun p46=>
  (bif sW t35 true then (x1ph p39.1 (B true) p46.1).bind fun v=>some (v,p46.2) else some (U,p46.2)).bind fun p47=>
  (x1ph t35 p47.1 (B false)).bind fun t48=>
  x1pc t48
  (x42 call hs u rec3 t0 t1 t4 t19 t17 t18 t19 p47.2 (fc+32))
  (x42 call hs u rec3 t0 t1 t4 t5 t17 t18 t19 p47.2 (fc+30))
noncomputable def xav (call:x1p9) (hs:FHs) (u:Nat) (rec3:AV→AV→AV→AV→AV→AV→AV→Mem→Nat→O2) (t0 t1 t4 t5 t17 t18 t19:AV) (m:Mem) (fc:Nat):O2:=
 (sLt t19 t18).bind fun t20=>
  x1pc t20
  (xau call hs u rec3 t0 t1 t4 t5 t17 t18 t19 m (fc+1))
  (x1k call hs u t0 t1 t4 t5 m (fc+1))
noncomputable def x2r (call:x1p9) (hs:FHs) (u:Nat):Nat→AV→AV→AV→AV→AV→AV→AV→Mem→Nat→O2
 | 0=>fun _ _ _ _ _ _ _ _ _=>none
 | n+1=>fun t0 t1 t4 t5 t17 t18 t19 m fc=>xav call hs u (x2r call hs u n) t0 t1 t4 t5 t17 t18 t19 m fc
noncomputable def xdw (call:x1p9) (hs:FHs) (u:Nat) (t0 t1 t4 t5:AV) (m:Mem) (fc:Nat):O2:=
 (sFA 0 t4).bind fun t16=>
  (sLd false 1 t16 m).bind fun t17=>
  (sLen Try.prog x5 t17).bind fun t18=>
  x2r call hs u NN t0 t1 t4 t5 t17 t18 (I 0) m (fc+4)
noncomputable def xii (call:x1p9) (hs:FHs) (u:Nat) (t0 t1:AV) (m:Mem) (fc:Nat):O2:=
 (x1u3 call x1r [t0,t1] m).bind fun p15=>
  x1po x7c (u,fc+3,4) p15.2 fun t4 m_5=>
  sSt 3 t4 p15.1 m_5 fun m_6=>
  xdw call hs u t0 t1 t4 (I (-1)) m_6 (fc+6)
noncomputable def xij (call:x1p9) (hs:FHs) (u:Nat) (t0:AV) (m:Mem) (fc:Nat):O2:=
 (sNeg t0).bind fun t5=>
  (sMax t0 t5).bind fun t6=>
  some (t6,m)
noncomputable def xik (call:x1p9) (hs:FHs) (u:Nat) (t0 t1:AV) (m:Mem) (fc:Nat):O2:=
 sBox t0 (u,fc,2) m fun t2 m_1=>
  sBox t1 (u,fc+1,3) m_1 fun t3 m_2=>
  some ((AV.clo x35 [t3,t2]),m_2)
noncomputable def xil (call:x1p9) (hs:FHs) (u:Nat) (t0:AV) (m:Mem) (fc:Nat):O2:=
 (x1pb call xb [t0,(I (-2048)),(I 2047)] m).bind fun p4=>
  some (p4.1,p4.2)
noncomputable def xim (call:x1p9) (hs:FHs) (u:Nat) (t0 t1:AV) (m:Mem) (fc:Nat):O2:=
 (x1pb call x10 [t0] m).bind fun p5=>
  (sNot p5.1).bind fun t6=>
  (bif sW t6 true then (sLd false 1 t1 p5.2).bind fun v=>some (v,p5.2) else some (U,p5.2)).bind fun p8=>
  (bif sW t6 true then some (t0,p8.2) else some (U,p8.2)).bind fun p9=>
  (bif sW t6 true then (x1qz call hs 2 p8.1 [p9.1] p9.2).bind fun p=>some (p.1,p.2) else some (U,p9.2)).bind fun p10=>
  (bif sW t6 true then (sNot p10.1).bind fun v=>some (v,p10.2) else some (U,p10.2)).bind fun p11=>
  (x1ph t6 p11.1 (B false)).bind fun t12=>
  some (t12,p11.2)
noncomputable def x7k (call:x1p9) (hs:FHs) (u:Nat) (t0:AV) (m:Mem) (fc:Nat):O2:=
 some (t0,m)
noncomputable def x7l (call:x1p9) (hs:FHs) (u:Nat) (t0 t1:AV) (m:Mem) (fc:Nat):O2:=
 (x1tk Try.prog .cap #[x5] x1ri [t0]).bind fun t10=>
  (sLen Try.prog x5 t0).bind fun t12=>
  (sSub t10 t12).bind fun t13=>
  (sSub t1 t13).bind fun t14=>
  (sGt t14 (I 0)).bind fun t16=>
  x1pc t16
  ((x1tk Try.prog .cap #[x5] x1ri [t0]).bind fun t19=>
  (x1rc Try.prog x5 t0 none (some t19)).bind fun t20=>
  sApp 1 8 (u,fc+15,22) (x1w2 x1q0 1 8 t14) t20 m fun t22 m_1=>
  (sLen Try.prog x5 t0).bind fun t24=>
  (x1rc Try.prog x5 t22 none (some t24)).bind fun t25=>
  x7k call hs u t25 m_1 (fc+20))
  (x7k call hs u t0 m (fc+10))
noncomputable def xaw (call:x1p9) (hs:FHs) (u:Nat) (t0 t1:AV) (m:Mem) (fc:Nat):O2:=
 (sLt t1 (I 0)).bind fun t6=>
  x1pc t6
  (none)
  (x7l call hs u t0 t1 m (fc+2))
noncomputable def xdx (call:x1p9) (hs:FHs) (u:Nat) (t0 t1:AV) (m:Mem) (fc:Nat):O2:=
 xaw call hs u t0 t1 m (fc+1)
noncomputable def xin (call:x1p9) (hs:FHs) (u:Nat) (t0:AV) (m:Mem) (fc:Nat):O2:=
 (sAdd t0 (I 2048)).bind fun t4=>
  (x1pb call x4s [t4,(I 4096)] m).bind fun p5=>
  (sSub p5.1 (I 2048)).bind fun t6=>
  some (t6,p5.2)
noncomputable def xm (call:x1p9) (hs:FHs) (u:Nat) (t5:AV) (m:Mem) (fc:Nat):O2:=
 (sLd false 1 t5 m).bind fun t44=>
  some (t44,m)
noncomputable def xx (call:x1p9) (hs:FHs) (u:Nat) (rec0:AV→AV→AV→AV→AV→Mem→Nat→O2) (t1 t5 t6 t14 t15:AV) (m:Mem) (fc:Nat):O2:=
 (sAdd t15 (I 1)).bind fun t43=>
  rec0 t1 t5 t6 t14 t43 m (fc+2)
noncomputable def x5h (call:x1p9) (hs:FHs) (u:Nat) (rec0:AV→AV→AV→AV→AV→Mem→Nat→O2) (t1 t5 t6 t14 t15:AV) (m:Mem) (fc:Nat):O2:=
 (sLd false 1 t6 m).bind fun t41=>
  (sAdd t41 (I 1)).bind fun t42=>
  sSt 1 t6 t42 m fun m_1=>
  xx call hs u rec0 t1 t5 t6 t14 t15 m_1 (fc+3)
noncomputable def xax (call:x1p9) (hs:FHs) (u:Nat) (rec0:AV→AV→AV→AV→AV→Mem→Nat→O2) (rec1:AV→AV→AV→AV→AV→AV→Mem→Nat→O2) (t1 t5 t6 t8 t14 t15:AV) (m:Mem) (fc:Nat):O2:=
 (sLd false 1 t8 m).bind fun t29=>
  (sLen Try.prog x5 t29).bind fun t30=>
  (sGt t30 (I 0)).bind fun t31=>
  x1pc t31
  ((sLd false 1 t8 m).bind fun t32=>
  (sIx 1 t32 (I 0)).bind fun t33=>
  (sLd false 1 t33 m).bind fun t34=>
  (sLd false 1 t8 m).bind fun t35=>
  (x1rc Try.prog x5 t35 (some (I 1)) none).bind fun t36=>
  sSt 1 t8 t36 m fun m_2=>
  (x1qz call hs 2 t1 [t34,(AV.clo x1q [t5,t6,t8])] m_2).bind fun p40=>
  rec1 t1 t5 t6 t8 t14 t15 p40.2 (fc+14))
  (x5h call hs u rec0 t1 t5 t6 t14 t15 m (fc+3))
noncomputable def x24 (call:x1p9) (hs:FHs) (u:Nat) (rec0:AV→AV→AV→AV→AV→Mem→Nat→O2):Nat→AV→AV→AV→AV→AV→AV→Mem→Nat→O2
 | 0=>fun _ _ _ _ _ _ _ _=>none
 | n+1=>fun t1 t5 t6 t8 t14 t15 m fc=>xax call hs u rec0 (x24 call hs u rec0 n) t1 t5 t6 t8 t14 t15 m fc
noncomputable def x7m (call:x1p9) (hs:FHs) (u:Nat) (rec0:AV→AV→AV→AV→AV→Mem→Nat→O2) (t1 t5 t6 t14 t15:AV) (m:Mem) (fc:Nat):O2:=
 (sLd false 1 t5 m).bind fun t18=>
  (sIx 1 t18 t15).bind fun t20=>
  (sLd false 1 t20 m).bind fun t21=>
  (sGe t21 (I 0)).bind fun t22=>
  x1pc t22
  (xx call hs u rec0 t1 t5 t6 t14 t15 m (fc+7))
  ((sLd false 1 t5 m).bind fun t23=>
  (sLd false 1 t6 m).bind fun t25=>
  (sIx 1 t23 t15).bind fun t26=>
  sSt 1 t26 t25 m fun m_3=>
  x1pt x1q0 [(0,1,t15)] 1 1 (u,fc+13,28) m_3 fun t28 m_4=>
  x1po x18 (u,fc+14,8) m_4 fun t8 m_5=>
  sSt 1 t8 t28 m_5 fun m_6=>
  x24 call hs u rec0 NN t1 t5 t6 t8 t14 t15 m_6 (fc+16))
noncomputable def xay (call:x1p9) (hs:FHs) (u:Nat) (rec0:AV→AV→AV→AV→AV→Mem→Nat→O2) (t1 t5 t6 t14 t15:AV) (m:Mem) (fc:Nat):O2:=
 (sLt t15 t14).bind fun t16=>
  x1pc t16
  (x7m call hs u rec0 t1 t5 t6 t14 t15 m (fc+1))
  (xm call hs u t5 m (fc+1))
noncomputable def x25 (call:x1p9) (hs:FHs) (u:Nat):Nat→AV→AV→AV→AV→AV→Mem→Nat→O2
 | 0=>fun _ _ _ _ _ _ _=>none
 | n+1=>fun t1 t5 t6 t14 t15 m fc=>xay call hs u (x25 call hs u n) t1 t5 t6 t14 t15 m fc
noncomputable def xdy (call:x1p9) (hs:FHs) (u:Nat) (t1 t5 t6:AV) (m:Mem) (fc:Nat):O2:=
 (sLd false 1 t5 m).bind fun t13=>
  (sLen Try.prog x5 t13).bind fun t14=>
  x25 call hs u NN t1 t5 t6 t14 (I 0) m (fc+3)
noncomputable def xio (call:x1p9) (hs:FHs) (u:Nat) (t0 t1:AV) (m:Mem) (fc:Nat):O2:=
 x1pt x1q0 [(0,1,(I (-1)))] 1 1 (u,fc+1,10) m fun t10 m_7=>
  (x1s9 call x1u [t10,t0] m_7).bind fun p12=>
  x1po x18 (u,fc+4,5) p12.2 fun t5 m_8=>
  sSt 1 t5 p12.1 m_8 fun m_9=>
  x1po x1q0 (u,fc+6,6) m_9 fun t6 m_10=>
  sSt 1 t6 (I 0) m_10 fun m_11=>
  xdy call hs u t1 t5 t6 m_11 (fc+8)
noncomputable def xdz (call:x1p9) (hs:FHs) (u:Nat) (rec0:AV→AV→AV→AV→Mem→Nat→O2) (t1 t10 t11 t12:AV) (m:Mem) (fc:Nat):O2:=
 (sLt t12 t11).bind fun t13=>
  x1pc t13
  ((sIx 1 t10 t12).bind fun t14=>
  (sLd false 1 t14 m).bind fun t15=>
  (x1qz call hs 2 t1 [t15] m).bind fun p18=>
  (sAdd t12 (I 1)).bind fun t19=>
  rec0 t1 t10 t11 t19 p18.2 (fc+9))
  ((some (AV.tup [],m)))
noncomputable def x43 (call:x1p9) (hs:FHs) (u:Nat):Nat→AV→AV→AV→AV→Mem→Nat→O2
 | 0=>fun _ _ _ _ _ _=>none
 | n+1=>fun t1 t10 t11 t12 m fc=>xdz call hs u (x43 call hs u n) t1 t10 t11 t12 m fc
noncomputable def xe0 (call:x1p9) (hs:FHs) (u:Nat) (t0 t1 t2:AV) (m:Mem) (fc:Nat):O2:=
 (sLd false 1 t2 m).bind fun t7=>
  (sIx 1 t7 t0).bind fun t9=>
  (sLd false 1 t9 m).bind fun t10=>
  (sLen Try.prog x5 t10).bind fun t11=>
  x43 call hs u NN t1 t10 t11 (I 0) m (fc+6)
noncomputable def x7n (call:x1p9) (hs:FHs) (u:Nat) (t2 t5 t7 t10:AV) (m:Mem) (fc:Nat):Option Mem:=
 (sFA 0 t5).bind fun t88=>
  (sLd false 1 t88 m).bind fun t89=>
  (sLd false 1 t7 m).bind fun t90=>
  (sIx 1 t89 t90).bind fun t91=>
  (sLd false 1 t91 m).bind fun t92=>
  (sFA 4 t10).bind fun t93=>
  (sLd false 1 t93 m).bind fun t94=>
  (sAdd t92 t94).bind fun t95=>
  (sLd false 1 t2 m).bind fun t96=>
  (sNil t96).bind fun t97=>
  (sFA 3 t97).bind fun t98=>
  (sLd false 1 t98 m).bind fun t99=>
  (sLd false 1 t7 m).bind fun t100=>
  (sIx 1 t99 t100).bind fun t101=>
  (sLd false 1 t101 m).bind fun t102=>
  (sAdd t95 t102).bind fun t103=>
  (sLd false 1 t2 m).bind fun t104=>
  (sNil t104).bind fun t105=>
  (sFA 3 t105).bind fun t106=>
  (sLd false 1 t106 m).bind fun t107=>
  (sFA 1 t10).bind fun t108=>
  (sLd false 1 t108 m).bind fun t109=>
  (sIx 1 t107 t109).bind fun t110=>
  (sLd false 1 t110 m).bind fun t111=>
  (sSub t103 t111).bind fun t112=>
  (sFA 0 t5).bind fun t114=>
  (sLd false 1 t114 m).bind fun t115=>
  (sFA 1 t10).bind fun t116=>
  (sLd false 1 t116 m).bind fun t117=>
  (sIx 1 t115 t117).bind fun t118=>
  (sLd false 1 t118 m).bind fun t119=>
  (sLt t112 t119).bind fun t120=>
  x1pc t120
  ((sFA 0 t5).bind fun t121=>
  (sLd false 1 t121 m).bind fun t122=>
  (sFA 1 t10).bind fun t123=>
  (sLd false 1 t123 m).bind fun t124=>
  (sFA 1 t5).bind fun t125=>
  (sLd false 1 t125 m).bind fun t126=>
  (sFA 1 t10).bind fun t127=>
  (sLd false 1 t127 m).bind fun t128=>
  (sFA 2 t5).bind fun t129=>
  (sLd false 1 t129 m).bind fun t130=>
  (sFA 1 t10).bind fun t131=>
  (sLd false 1 t131 m).bind fun t132=>
  (sLd true 5 t10 m).bind fun t134=>
  (sLd false 1 t7 m).bind fun t135=>
  (sIx 1 t122 t124).bind fun t136=>
  sSt 1 t136 t112 m fun m_1=>
  (sIx 5 t126 t128).bind fun t137=>
  sSt 5 t137 t134 m_1 fun m_2=>
  (sIx 1 t130 t132).bind fun t138=>
  sSt 1 t138 t135 m_2 fun m_3=>
  bif (x1pd (tR t125) (tS t136)&&(x1pd (tR t127) (tS t136)&&(x1pd (tR t129) (tS t136)&&(x1pd (tR t131) (tS t136)&&(x1pd (tR t10) (tS t136)&&(x1pd (tR t7) (tS t136)&&(x1pd (tR t129) (tS t137)&&(x1pd (tR t131) (tS t137)&&(x1pd (tR t7) (tS t137)&&true))))))))) then
  some m_3 else none)
  (some m)
noncomputable def x6i (call:x1p9) (hs:FHs) (u:Nat) (t2 t5 t7 t87:AV) (m:Mem) (fc:Nat):Option Mem:=
 x1po x7o (u,fc,10) m fun t10 m_4=>
  sSt 5 t10 t87 m_4 fun m_5=>
  x7n call hs u t2 t5 t7 t10 m_5 (fc+2)
noncomputable def xe1 (call:x1p9) (hs:FHs) (u:Nat) (rec0:AV→AV→AV→AV→Mem→Nat→O2) (t2 t4 t5 t6 t7 t86:AV) (m:Mem) (fc:Nat):O2:=
 sRng t86 fun g caps=>
 (call (((u,fc,0),fun args m=>bif Nat.beq args.length 1&&true then x6i call hs m.next t2 t5 t7 (args.getD 0 U) ⟨m.hp,m.next+1⟩ 0 else none)::hs) g (.yld (u,fc,0)::caps) m).bind fun p=>rec0 t2 t4 t5 t6 p.2 (fc+1)
noncomputable def xy (call:x1p9) (hs:FHs) (u:Nat) (rec0:AV→AV→AV→AV→Mem→Nat→O2) (t2 t4 t5 t6 t7:AV) (m:Mem) (fc:Nat):O2:=
 (sLd false 1 t7 m).bind fun t78=>
  (sLt t78 (I 0)).bind fun t79=>
  x1pc t79
  ((sLd true 3 t5 m).bind fun t80=>
  sSt 3 t4 t80 m fun m_6=>
  (sLdP true 3 t4 m_6).bind fun r0=>
  some (r0,m_6))
  ((sLd false 1 t7 m).bind fun t82=>
  (sIx 1 t6 t82).bind fun t83=>
  sSt 1 t83 (B true) m fun m_7=>
  (sLd false 1 t2 m_7).bind fun t84=>
  (sLd false 1 t7 m_7).bind fun t85=>
  (call hs x5m [t84,t85] m_7).bind fun p86=>
  xe1 call hs u rec0 t2 t4 t5 t6 t7 p86.1 p86.2 (fc+9))
noncomputable def x44 (call:x1p9) (hs:FHs) (u:Nat) (rec0:AV→AV→AV→AV→Mem→Nat→O2) (rec1:AV→AV→AV→AV→AV→AV→AV→AV→Mem→Nat→O2) (t2 t4 t5 t6 t7 t47 t48 t49:AV) (m:Mem) (fc:Nat):O2:=
 (sAdd t49 (I 1)).bind fun t77=>
  rec1 t2 t4 t5 t6 t7 t47 t48 t77 m (fc+2)
noncomputable def xaz (call:x1p9) (hs:FHs) (u:Nat) (rec0:AV→AV→AV→AV→Mem→Nat→O2) (rec1:AV→AV→AV→AV→AV→AV→AV→AV→Mem→Nat→O2) (t2 t4 t5 t6 t7 t47 t48 t49:AV) (m:Mem) (fc:Nat):O2:=
 (sIx 1 t47 t49).bind fun t52=>
  (sLd false 1 t52 m).bind fun t53=>
  (sIx 1 t6 t49).bind fun t56=>
  (sLd false 1 t56 m).bind fun t57=>
  (sNot t57).bind fun t58=>
  (bif sW t58 true then some (t53,m) else some (U,m)).bind fun p60=>
  (bif sW t58 true then (sLt p60.1 (I 1152921504606846976)).bind fun v=>some (v,p60.2) else some (U,p60.2)).bind fun p61=>
  (x1ph t58 p61.1 (B false)).bind fun t62=>
  (bif sW t62 true then (sLd false 1 t7 p61.2).bind fun v=>some (v,p61.2) else some (U,p61.2)).bind fun p64=>
  (bif sW t62 true then (sLt p64.1 (I 0)).bind fun v=>some (v,p64.2) else some (U,p64.2)).bind fun p65=>
  (bif sW t62 true then some (p65.1,p65.2) else some (U,p65.2)).bind fun p66=>
  (bif sW p66.1 false then some (t53,p66.2) else some (U,p66.2)).bind fun p67=>
  (bif sW p66.1 false then (sFA 0 t5).bind fun v=>some (v,p67.2) else some (U,p67.2)).bind fun p68=>
  (bif sW p66.1 false then (sLd false 1 p68.1 p68.2).bind fun v=>some (v,p68.2) else some (U,p68.2)).bind fun p69=>
  (bif sW p66.1 false then (sLd false 1 t7 p69.2).bind fun v=>some (v,p69.2) else some (U,p69.2)).bind fun p70=>
  (bif sW p66.1 false then (sIx 1 p69.1 p70.1).bind fun v=>some (v,p70.2) else some (U,p70.2)).bind fun p71=>
  (bif sW p66.1 false then (sLd false 1 p71.1 p71.2).bind fun v=>some (v,p71.2) else some (U,p71.2)).bind fun p72=>
  (bif sW p66.1 false then (sLt p67.1 p72.1).bind fun v=>some (v,p72.2) else some (U,p72.2)).bind fun p73=>
  (bif sW t62 true then (x1ph p66.1 (B true) p73.1).bind fun v=>some (v,p73.2) else some (U,p73.2)).bind fun p74=>
  (x1ph t62 p74.1 (B false)).bind fun t75=>
  x1pc t75
  (sSt 1 t7 t49 p74.2 fun m_8=>
  x44 call hs u rec0 rec1 t2 t4 t5 t6 t7 t47 t48 t49 m_8 (fc+29))
  (x44 call hs u rec0 rec1 t2 t4 t5 t6 t7 t47 t48 t49 p74.2 (fc+27))
noncomputable def xb0 (call:x1p9) (hs:FHs) (u:Nat) (rec0:AV→AV→AV→AV→Mem→Nat→O2) (rec1:AV→AV→AV→AV→AV→AV→AV→AV→Mem→Nat→O2) (t2 t4 t5 t6 t7 t47 t48 t49:AV) (m:Mem) (fc:Nat):O2:=
 (sLt t49 t48).bind fun t50=>
  x1pc t50
  (xaz call hs u rec0 rec1 t2 t4 t5 t6 t7 t47 t48 t49 m (fc+1))
  (xy call hs u rec0 t2 t4 t5 t6 t7 m (fc+1))
noncomputable def x2s (call:x1p9) (hs:FHs) (u:Nat) (rec0:AV→AV→AV→AV→Mem→Nat→O2):Nat→AV→AV→AV→AV→AV→AV→AV→AV→Mem→Nat→O2
 | 0=>fun _ _ _ _ _ _ _ _ _ _=>none
 | n+1=>fun t2 t4 t5 t6 t7 t47 t48 t49 m fc=>xb0 call hs u rec0 (x2s call hs u rec0 n) t2 t4 t5 t6 t7 t47 t48 t49 m fc
noncomputable def xe2 (call:x1p9) (hs:FHs) (u:Nat) (rec0:AV→AV→AV→AV→Mem→Nat→O2) (t2 t4 t5 t6 t7:AV) (m:Mem) (fc:Nat):O2:=
 (sFA 0 t5).bind fun t46=>
  (sLd false 1 t46 m).bind fun t47=>
  (sLen Try.prog x5 t47).bind fun t48=>
  x2s call hs u rec0 NN t2 t4 t5 t6 t7 t47 t48 (I 0) m (fc+4)
noncomputable def xe3 (call:x1p9) (hs:FHs) (u:Nat) (rec0:AV→AV→AV→AV→Mem→Nat→O2) (t2 t4 t5 t6:AV) (m:Mem) (fc:Nat):O2:=
 x1po x1q0 (u,fc,7) m fun t7 m_9=>
  sSt 1 t7 (I (-1)) m_9 fun m_10=>
  xe2 call hs u rec0 t2 t4 t5 t6 t7 m_10 (fc+2)
noncomputable def x1l (call:x1p9) (hs:FHs) (u:Nat):Nat→AV→AV→AV→AV→Mem→Nat→O2
 | 0=>fun _ _ _ _ _ _=>none
 | n+1=>fun t2 t4 t5 t6 m fc=>xe3 call hs u (x1l call hs u n) t2 t4 t5 t6 m fc
noncomputable def xip (call:x1p9) (hs:FHs) (u:Nat) (t0 t1:AV) (m:Mem) (fc:Nat):O2:=
 sBox t0 (u,fc,2) m fun t2 m_11=>
  x1po x7c (u,fc+1,4) m_11 fun t4 m_12=>
  x1pt x1q0 [(0,1,(I 1152921504606846976))] 1 1 (u,fc+2,12) m_12 fun t12 m_13=>
  (sLd false 1 t2 m_13).bind fun t13=>
  (sNil t13).bind fun t14=>
  (sFA 0 t14).bind fun t15=>
  (sFA 0 t15).bind fun t16=>
  (sFA 0 t16).bind fun t17=>
  (sLd false 1 t17 m_13).bind fun t18=>
  (x1s9 call x1u [t12,t18] m_13).bind fun p19=>
  (sLd false 1 t2 p19.2).bind fun t20=>
  (sNil t20).bind fun t21=>
  (sFA 0 t21).bind fun t22=>
  (sFA 0 t22).bind fun t23=>
  (sFA 0 t23).bind fun t24=>
  (sLd false 1 t24 p19.2).bind fun t25=>
  x1qd x7o 5 40 t25 t25 (u,fc+16,26) p19.2 fun t26 m_14=>
  (sLd false 1 t2 m_14).bind fun t27=>
  (sNil t27).bind fun t28=>
  (sFA 0 t28).bind fun t29=>
  (sFA 0 t29).bind fun t30=>
  (sFA 0 t30).bind fun t31=>
  (sLd false 1 t31 m_14).bind fun t32=>
  x1qd x1q0 1 8 t32 t32 (u,fc+23,33) m_14 fun t33 m_15=>
  (x1pl x7c [(0,1,p19.1),(1,1,t26),(2,1,t33)]).bind fun t34=>
  x1po x7c (u,fc+25,5) m_15 fun t5 m_16=>
  sSt 3 t5 t34 m_16 fun m_17=>
  bif (Nat.ble 1 (mkM 1 [t12,t18])&&true)&&(x1pd (some [],some [(u,fc+2,12)]) (tR t2)&&(x1pd (some [],some [(u,fc+2,12)]) (tR t17)&&(x1pd (some [],some [(u,fc+2,12)]) (tR t2)&&(cAp (some m_12.next) (tR t2) (mkM 1 [t12,t18])&&(x1pd (some [],some [(u,fc+2,12)]) (tR t24)&&(cAp (some m_12.next) (tR t24) (mkM 1 [t12,t18])&&(x1pd (some [],some [(u,fc+2,12)]) (some [],some [(u,fc+16,26)])&&(x1pd (tR t2) (some [],some [(u,fc+16,26)])&&(x1pd (tR t17) (some [],some [(u,fc+16,26)])&&(cAp (some m_12.next) (some [],some [(u,fc+16,26)]) (mkM 1 [t12,t18])&&(x1pd (some [],some [(u,fc+2,12)]) (tR t2)&&(cAp (some m_12.next) (tR t2) (mkM 1 [t12,t18])&&(x1pd (some [],some [(u,fc+16,26)]) (tR t2)&&(x1pd (some [],some [(u,fc+2,12)]) (tR t31)&&(cAp (some m_12.next) (tR t31) (mkM 1 [t12,t18])&&(x1pd (some [],some [(u,fc+16,26)]) (tR t31)&&(x1pd (some [],some [(u,fc+2,12)]) (some [],some [(u,fc+23,33)])&&(x1pd (tR t2) (some [],some [(u,fc+23,33)])&&(x1pd (tR t17) (some [],some [(u,fc+23,33)])&&(cAp (some m_12.next) (some [],some [(u,fc+23,33)]) (mkM 1 [t12,t18])&&(x1pd (tR t2) (some [],some [(u,fc+23,33)])&&(x1pd (tR t24) (some [],some [(u,fc+23,33)])&&(x1pd (some [],some [(u,fc+16,26)]) (some [],some [(u,fc+23,33)])&&(x1pd (some [],some [(u,fc+2,12)]) (some [],some [(u,fc+25,5)])&&(x1pd (tR t2) (some [],some [(u,fc+25,5)])&&(x1pd (tR t17) (some [],some [(u,fc+25,5)])&&(cAp (some m_12.next) (some [],some [(u,fc+25,5)]) (mkM 1 [t12,t18])&&(x1pd (tR t2) (some [],some [(u,fc+25,5)])&&(x1pd (tR t24) (some [],some [(u,fc+25,5)])&&(x1pd (some [],some [(u,fc+16,26)]) (some [],some [(u,fc+25,5)])&&(x1pd (tR t2) (some [],some [(u,fc+25,5)])&&(x1pd (tR t31) (some [],some [(u,fc+25,5)])&&(x1pd (some [],some [(u,fc+23,33)]) (some [],some [(u,fc+25,5)])&&true))))))))))))))))))))))))))))))))) then
  (sLd false 1 t2 m_17).bind fun t35=>
  (sNil t35).bind fun t36=>
  (sFA 0 t36).bind fun t37=>
  (sFA 0 t37).bind fun t38=>
  (sFA 0 t38).bind fun t39=>
  (sLd false 1 t39 m_17).bind fun t40=>
  x1qd xnb 1 1 t40 t40 (u,fc+33,41) m_17 fun t41 m_18=>
  (sFA 0 t5).bind fun t42=>
  (sLd false 1 t42 m_18).bind fun t43=>
  (sIx 1 t43 t1).bind fun t45=>
  sSt 1 t45 (I 0) m_18 fun m_19=>
  x1l call hs u NN t2 t4 t5 t41 m_19 (fc+40) else none
noncomputable def xe4 (call:x1p9) (hs:FHs) (u:Nat) (rec0:AV→AV→AV→AV→AV→Mem→Nat→O2) (t0 t1 t3 t9 t10:AV) (m:Mem) (fc:Nat):O2:=
 (sAdd t10 (I 1)).bind fun t52=>
  rec0 t0 t1 t3 t9 t52 m (fc+2)
noncomputable def xiq (call:x1p9) (hs:FHs) (u:Nat) (rec0:AV→AV→AV→AV→AV→Mem→Nat→O2) (t0 t1 t3 t9 t10:AV) (m:Mem) (fc:Nat):O2:=
 (sLd false 1 t3 m).bind fun t13=>
  (sIx 1 t13 t0).bind fun t15=>
  (sLd false 1 t15 m).bind fun t16=>
  (sIx 1 t16 t10).bind fun t18=>
  (sLd false 1 t18 m).bind fun t19=>
  (sLt t19 (I 1152921504606846976)).bind fun t20=>
  (bif sW t20 true then (sLd false 1 t3 m).bind fun v=>some (v,m) else some (U,m)).bind fun p22=>
  (bif sW t20 true then some (t10,p22.2) else some (U,p22.2)).bind fun p23=>
  (bif sW t20 true then (sIx 1 p22.1 p23.1).bind fun v=>some (v,p23.2) else some (U,p23.2)).bind fun p24=>
  (bif sW t20 true then (sLd false 1 p24.1 p24.2).bind fun v=>some (v,p24.2) else some (U,p24.2)).bind fun p25=>
  (bif sW t20 true then some (t0,p25.2) else some (U,p25.2)).bind fun p26=>
  (bif sW t20 true then (sIx 1 p25.1 p26.1).bind fun v=>some (v,p26.2) else some (U,p26.2)).bind fun p27=>
  (bif sW t20 true then (sLd false 1 p27.1 p27.2).bind fun v=>some (v,p27.2) else some (U,p27.2)).bind fun p28=>
  (bif sW t20 true then (sLt p28.1 (I 1152921504606846976)).bind fun v=>some (v,p28.2) else some (U,p28.2)).bind fun p29=>
  (x1ph t20 p29.1 (B false)).bind fun t30=>
  (bif sW t30 true then (sLd false 1 t3 p29.2).bind fun v=>some (v,p29.2) else some (U,p29.2)).bind fun p32=>
  (bif sW t30 true then some (t0,p32.2) else some (U,p32.2)).bind fun p33=>
  (bif sW t30 true then (sIx 1 p32.1 p33.1).bind fun v=>some (v,p33.2) else some (U,p33.2)).bind fun p34=>
  (bif sW t30 true then (sLd false 1 p34.1 p34.2).bind fun v=>some (v,p34.2) else some (U,p34.2)).bind fun p35=>
  (bif sW t30 true then some (t10,p35.2) else some (U,p35.2)).bind fun p36=>
  (bif sW t30 true then (sIx 1 p35.1 p36.1).bind fun v=>some (v,p36.2) else some (U,p36.2)).bind fun p37=>
  (bif sW t30 true then (sLd false 1 p37.1 p37.2).bind fun v=>some (v,p37.2) else some (U,p37.2)).bind fun p38=>
  (bif sW t30 true then (sLd false 1 t3 p38.2).bind fun v=>some (v,p38.2) else some (U,p38.2)).bind fun p39=>
  (bif sW t30 true then some (t10,p39.2) else some (U,p39.2)).bind fun p40=>
  (bif sW t30 true then (sIx 1 p39.1 p40.1).bind fun v=>some (v,p40.2) else some (U,p40.2)).bind fun p41=>
  (bif sW t30 true then (sLd false 1 p41.1 p41.2).bind fun v=>some (v,p41.2) else some (U,p41.2)).bind fun p42=>
  (bif sW t30 true then some (t0,p42.2) else some (U,p42.2)).bind fun p43=>
  (bif sW t30 true then (sIx 1 p42.1 p43.1).bind fun v=>some (v,p43.2) else some (U,p43.2)).bind fun p44=>
  (bif sW t30 true then (sLd false 1 p44.1 p44.2).bind fun v=>some (v,p44.2) else some (U,p44.2)).bind fun p45=>
  (bif sW t30 true then (sAdd p38.1 p45.1).bind fun v=>some (v,p45.2) else some (U,p45.2)).bind fun p46=>
  (bif sW t30 true then (sEq p46.1 (I 0)).bind fun v=>some (v,p46.2) else some (U,p46.2)).bind fun p47=>
  (x1ph t30 p47.1 (B false)).bind fun t48=>
  x1pc t48
  ((x1qz call hs 2 t1 [t10] p47.2).bind fun p51=>
  xe4 call hs u rec0 t0 t1 t3 t9 t10 p51.2 (fc+41))
  (xe4 call hs u rec0 t0 t1 t3 t9 t10 p47.2 (fc+38))
noncomputable def xnc (call:x1p9) (hs:FHs) (u:Nat) (rec0:AV→AV→AV→AV→AV→Mem→Nat→O2) (t0 t1 t3 t9 t10:AV) (m:Mem) (fc:Nat):O2:=
 (sLt t10 t9).bind fun t11=>
  x1pc t11
  (xiq call hs u rec0 t0 t1 t3 t9 t10 m (fc+1))
  ((some (AV.tup [],m)))
noncomputable def x7p (call:x1p9) (hs:FHs) (u:Nat):Nat→AV→AV→AV→AV→AV→Mem→Nat→O2
 | 0=>fun _ _ _ _ _ _ _=>none
 | n+1=>fun t0 t1 t3 t9 t10 m fc=>xnc call hs u (x7p call hs u n) t0 t1 t3 t9 t10 m fc
noncomputable def xnd (call:x1p9) (hs:FHs) (u:Nat) (t0 t1 t2 t3:AV) (m:Mem) (fc:Nat):O2:=
 (sFA 0 t2).bind fun t7=>
  (sFA 0 t7).bind fun t8=>
  (sLd false 1 t8 m).bind fun t9=>
  x7p call hs u NN t0 t1 t3 t9 (I 0) m (fc+4)
end Go.Ix
