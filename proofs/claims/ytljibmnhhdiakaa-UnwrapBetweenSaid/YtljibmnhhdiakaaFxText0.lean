import Derived.Test.YtljibmnhhdiakaaFxConst
set_option linter.unusedVariables false
namespace Go.Ix
open Go.Proofs
noncomputable def xf3 (call:x1lo) (hs:FHs) (u:Nat) (t0 t1 t2:AV) (m:Mem) (fc:Nat):O2:=
 sBox t0 (u,fc,3) m fun t3 m_1=>
  (x1lq call x1d [] m_1).bind fun p16=>
  (sNot p16.1).bind fun t17=>
  x1lr t17
  (some ((B false),p16.2))
  ((sLd true 2 t3 p16.2).bind fun t18=>
  (x1lq call x26 [t18] p16.2).bind fun p19=>
  (sNot p19.1).bind fun t20=>
  x1lr t20
  (some ((B true),p19.2))
  ((sLd true 2 t3 p19.2).bind fun t22=>
  (x1lq call xc [t22] p19.2).bind fun p23=>
  (x1lq call xu [p23.1,t1,t2] p23.2).bind fun p26=>
  (sExt p26.1 0).bind fun t27=>
  (sExt p26.1 1).bind fun t28=>
  x1m5 xe (u,fc+15,7) p26.2 fun t7 m_2=>
  sSt 2 t7 t27 m_2 fun m_3=>
  (sLd true 2 t3 m_3).bind fun t30=>
  (x1lq call xc [t30] m_3).bind fun p31=>
  (x1lq call x2u [p31.1] p31.2).bind fun p32=>
  (sExt p32.1 0).bind fun t33=>
  (sExt p32.1 1).bind fun t34=>
  (sLd true 2 t3 p32.2).bind fun t35=>
  (x1lq call x1m [t35] p32.2).bind fun p36=>
  (sNe p36.1 (I 0)).bind fun t38=>
  x1lr t38
  ((sEq t28 p36.1).bind fun t41=>
  (bif sW t41 true then some (t34,p36.2) else some (U,p36.2)).bind fun p43=>
  (bif sW t41 true then some (p36.1,p43.2) else some (U,p43.2)).bind fun p44=>
  (bif sW t41 true then (sEq p43.1 p44.1).bind fun v=>some (v,p44.2) else some (U,p44.2)).bind fun p45=>
  (x1lx t41 p45.1 (B false)).bind fun t46=>
  (bif sW t46 true then (sLd true 2 t7 p45.2).bind fun v=>some (v,p45.2) else some (U,p45.2)).bind fun p48=>
  (bif sW t46 true then (x1m4 xe []).bind fun v=>some (v,p48.2) else some (U,p48.2)).bind fun p49=>
  (bif sW t46 true then (sBin Try.prog .eql x2x (.tmp 48) (.tmp 49) p48.1 p49.1).bind fun v=>some (v,p49.2) else some (U,p49.2)).bind fun p50=>
  (x1lx t46 p50.1 (B false)).bind fun t51=>
  (bif sW t51 true then some (t33,p50.2) else some (U,p50.2)).bind fun p53=>
  (bif sW t51 true then (sLen Try.prog x4 p53.1).bind fun v=>some (v,p53.2) else some (U,p53.2)).bind fun p54=>
  (bif sW t51 true then (sEq p54.1 (I 0)).bind fun v=>some (v,p54.2) else some (U,p54.2)).bind fun p55=>
  (x1lx t51 p55.1 (B false)).bind fun t56=>
  some (t56,p55.2))
  ((sNe t34 (I 0)).bind fun t58=>
  (bif sW t58 false then some (t33,p36.2) else some (U,p36.2)).bind fun p60=>
  (bif sW t58 false then (sLd true 2 t3 p60.2).bind fun v=>some (v,p60.2) else some (U,p60.2)).bind fun p61=>
  (bif sW t58 false then (x1lq call x3p [p61.1] p61.2).bind fun p=>some (p.1,p.2) else some (U,p61.2)).bind fun p62=>
  (bif sW t58 false then (x1lq call x27 [p60.1,p62.1] p62.2).bind fun p=>some (p.1,p.2) else some (U,p62.2)).bind fun p63=>
  (bif sW t58 false then (sNot p63.1).bind fun v=>some (v,p63.2) else some (U,p63.2)).bind fun p64=>
  (x1lx t58 (B true) p64.1).bind fun t65=>
  x1lr t65
  (some ((B false),p64.2))
  ((sFA 0 t3).bind fun t67=>
  (sLd false 1 t67 p64.2).bind fun t68=>
  (sSub t68 (I 1)).bind fun t69=>
  (x1lq call x5 [t1,(I 0),t69] p64.2).bind fun p70=>
  (sNot p70.1).bind fun t71=>
  (bif sW t71 false then some (t2,p70.2) else some (U,p70.2)).bind fun p73=>
  (bif sW t71 false then (sFA 0 t3).bind fun v=>some (v,p73.2) else some (U,p73.2)).bind fun p74=>
  (bif sW t71 false then (sLd false 1 p74.1 p74.2).bind fun v=>some (v,p74.2) else some (U,p74.2)).bind fun p75=>
  (bif sW t71 false then (sSub p75.1 (I 1)).bind fun v=>some (v,p75.2) else some (U,p75.2)).bind fun p76=>
  (bif sW t71 false then (x1lq call x5 [p73.1,(I 0),p76.1] p76.2).bind fun p=>some (p.1,p.2) else some (U,p76.2)).bind fun p77=>
  (bif sW t71 false then (sNot p77.1).bind fun v=>some (v,p77.2) else some (U,p77.2)).bind fun p78=>
  (x1lx t71 (B true) p78.1).bind fun t79=>
  x1lr t79
  ((sEq t28 (I 6)).bind fun t81=>
  (bif sW t81 true then (sLd true 2 t7 p78.2).bind fun v=>some (v,p78.2) else some (U,p78.2)).bind fun p83=>
  (bif sW t81 true then (x1m4 xe []).bind fun v=>some (v,p83.2) else some (U,p83.2)).bind fun p84=>
  (bif sW t81 true then (sBin Try.prog .eql x2x (.tmp 83) (.tmp 84) p83.1 p84.1).bind fun v=>some (v,p84.2) else some (U,p84.2)).bind fun p85=>
  (x1lx t81 p85.1 (B false)).bind fun t86=>
  some (t86,p85.2))
  ((sLd true 2 t3 p78.2).bind fun t88=>
  (sLd true 2 t3 p78.2).bind fun t89=>
  (x1lq call x28 [t89] p78.2).bind fun p90=>
  (x1lq call x3q [t88,p90.1,t1,t2] p90.2).bind fun p93=>
  (sExt p93.1 0).bind fun t94=>
  (sExt p93.1 1).bind fun t95=>
  x1m5 xe (u,fc+63,12) p93.2 fun t12 m_4=>
  sSt 2 t12 t94 m_4 fun m_5=>
  bif (Nat.ble 1 (mkM 0 [t89])&&true)&&(cAp none (tR t3) (mkM 0 [t89])&&(x1ls (tR t3) (some [],some [(u,fc+63,12)])&&(x1ls (tR t3) (some [],some [(u,fc+63,12)])&&(cAp (some p78.2.next) (some [],some [(u,fc+63,12)]) (mkM 0 [t89])&&(cAp (some p78.2.next) (some [],some [(u,fc+63,12)]) (mkM 0 [t88,p90.1,t1,t2])&&true))))) then
  (sNot t95).bind fun t97=>
  x1lr t97
  ((sEq t28 (I 25)).bind fun t99=>
  (bif sW t99 true then (sLd true 2 t7 m_5).bind fun v=>some (v,m_5) else some (U,m_5)).bind fun p101=>
  (bif sW t99 true then (x1m4 xe []).bind fun v=>some (v,p101.2) else some (U,p101.2)).bind fun p102=>
  (bif sW t99 true then (sBin Try.prog .eql x2x (.tmp 101) (.tmp 102) p101.1 p102.1).bind fun v=>some (v,p102.2) else some (U,p102.2)).bind fun p103=>
  (x1lx t99 p103.1 (B false)).bind fun t104=>
  some (t104,p103.2))
  ((sLd true 2 t3 m_5).bind fun t106=>
  (x1lq call xc [t106] m_5).bind fun p107=>
  (x1lq call xu [p107.1,t2,t1] p107.2).bind fun p110=>
  (sExt p110.1 0).bind fun t111=>
  (sExt p110.1 1).bind fun t112=>
  x1m5 xe (u,fc+76,14) p110.2 fun t14 m_6=>
  sSt 2 t14 t111 m_6 fun m_7=>
  (sEq t28 (I 0)).bind fun t114=>
  (bif sW t114 true then (sLd true 2 t7 m_7).bind fun v=>some (v,m_7) else some (U,m_7)).bind fun p116=>
  (bif sW t114 true then (sLd true 2 t12 p116.2).bind fun v=>some (v,p116.2) else some (U,p116.2)).bind fun p117=>
  (bif sW t114 true then (sBin Try.prog .eql x2x (.tmp 116) (.tmp 117) p116.1 p117.1).bind fun v=>some (v,p117.2) else some (U,p117.2)).bind fun p118=>
  (x1lx t114 p118.1 (B false)).bind fun t119=>
  (bif sW t119 true then some (t112,p118.2) else some (U,p118.2)).bind fun p121=>
  (bif sW t119 true then (sEq p121.1 (I 0)).bind fun v=>some (v,p121.2) else some (U,p121.2)).bind fun p122=>
  (x1lx t119 p122.1 (B false)).bind fun t123=>
  (bif sW t123 true then (sFA 0 t14).bind fun v=>some (v,p122.2) else some (U,p122.2)).bind fun p125=>
  (bif sW t123 true then (sLd false 1 p125.1 p125.2).bind fun v=>some (v,p125.2) else some (U,p125.2)).bind fun p126=>
  (bif sW t123 true then (sFA 1 t7).bind fun v=>some (v,p126.2) else some (U,p126.2)).bind fun p127=>
  (bif sW t123 true then (sLd false 1 p127.1 p127.2).bind fun v=>some (v,p127.2) else some (U,p127.2)).bind fun p128=>
  (bif sW t123 true then (sNeg p128.1).bind fun v=>some (v,p128.2) else some (U,p128.2)).bind fun p129=>
  (bif sW t123 true then (sEq p126.1 p129.1).bind fun v=>some (v,p129.2) else some (U,p129.2)).bind fun p130=>
  (x1lx t123 p130.1 (B false)).bind fun t131=>
  (bif sW t131 true then (sFA 1 t14).bind fun v=>some (v,p130.2) else some (U,p130.2)).bind fun p133=>
  (bif sW t131 true then (sLd false 1 p133.1 p133.2).bind fun v=>some (v,p133.2) else some (U,p133.2)).bind fun p134=>
  (bif sW t131 true then (sFA 0 t7).bind fun v=>some (v,p134.2) else some (U,p134.2)).bind fun p135=>
  (bif sW t131 true then (sLd false 1 p135.1 p135.2).bind fun v=>some (v,p135.2) else some (U,p135.2)).bind fun p136=>
  (bif sW t131 true then (sNeg p136.1).bind fun v=>some (v,p136.2) else some (U,p136.2)).bind fun p137=>
  (bif sW t131 true then (sEq p134.1 p137.1).bind fun v=>some (v,p137.2) else some (U,p137.2)).bind fun p138=>
  (x1lx t131 p138.1 (B false)).bind fun t139=>
  some (t139,p138.2)) else none)))))
noncomputable def x4w (call:x1lo) (hs:FHs) (u:Nat) (t3 t7 t11:AV) (m:Mem) (fc:Nat):O2:=
 (sLd true 2 t3 m).bind fun t82=>
  (x1lq call xc [t82] m).bind fun p83=>
  (x1lq call x3r [p83.1,t11] p83.2).bind fun p85=>
  (sExt p85.1 0).bind fun t86=>
  (sExt p85.1 1).bind fun t87=>
  (sEq t87 (I 0)).bind fun t89=>
  (bif sW t89 true then some (t86,p85.2) else some (U,p85.2)).bind fun p91=>
  (bif sW t89 true then some (t7,p91.2) else some (U,p91.2)).bind fun p92=>
  (bif sW t89 true then (sEq p91.1 p92.1).bind fun v=>some (v,p92.2) else some (U,p92.2)).bind fun p93=>
  (x1lx t89 p93.1 (B false)).bind fun t94=>
  some (t94,p93.2)
noncomputable def xjt (call:x1lo) (hs:FHs) (u:Nat) (rec0:AV→AV→AV→AV→AV→AV→Mem→Nat→O2) (t1 t2 t3 t7 t11 t12:AV) (m:Mem) (fc:Nat):O2:=
 (sLen Try.prog x4 t1).bind fun t60=>
  (sLt t12 t60).bind fun t61=>
  x1lr t61
  ((sIx 1 t1 t12).bind fun t66=>
  (sLd false 1 t66 m).bind fun t67=>
  (sAdd t67 t2).bind fun t69=>
  (x1lq call x5 [t69,(I (-1000000)),(I 1000000)] m).bind fun p70=>
  (sNot p70.1).bind fun t71=>
  x1lr t71
  (some ((B true),p70.2))
  ((sIx 1 t1 t12).bind fun t75=>
  (sLd false 1 t75 p70.2).bind fun t76=>
  (sAdd t76 t2).bind fun t78=>
  x1ma x1mc [(0,1,t78)] 1 1 (u,fc+19,79) p70.2 fun t79 m_1=>
  sApp 1 8 (u,fc+20,80) (elems m_1.get 1 t79) t11 m_1 fun t80 m_2=>
  (sAdd t12 (I 1)).bind fun t63=>
  rec0 t1 t2 t3 t7 t80 t63 m_2 (fc+25)))
  (x4w call hs u t3 t7 t11 m (fc+4))
noncomputable def x5u (call:x1lo) (hs:FHs) (u:Nat):Nat→AV→AV→AV→AV→AV→AV→Mem→Nat→O2
 | 0=>fun _ _ _ _ _ _ _ _=>none
 | n+1=>fun t1 t2 t3 t7 t11 t12 m fc=>xjt call hs u (x5u call hs u n) t1 t2 t3 t7 t11 t12 m fc
noncomputable def xf4 (call:x1lo) (hs:FHs) (u:Nat) (t1 t2 t3 t7 t11:AV) (m:Mem) (fc:Nat):O2:=
 x5u call hs u NN t1 t2 t3 t7 t11 (I 0) m (fc+1)
noncomputable def xa9 (call:x1lo) (hs:FHs) (u:Nat) (t1 t2 t3 t7 t8 t9 t10:AV) (m:Mem) (fc:Nat):O2:=
 (sNe t8 t9).bind fun t45=>
  (bif sW t45 false then some (t7,m) else some (U,m)).bind fun p47=>
  (bif sW t45 false then some (t10,p47.2) else some (U,p47.2)).bind fun p48=>
  (bif sW t45 false then (sNe p47.1 p48.1).bind fun v=>some (v,p48.2) else some (U,p48.2)).bind fun p49=>
  (x1lx t45 (B true) p49.1).bind fun t50=>
  x1lr t50
  (some ((B false),p49.2))
  ((sNe t9 (I 0)).bind fun t52=>
  (bif sW t52 false then some (t2,p49.2) else some (U,p49.2)).bind fun p54=>
  (bif sW t52 false then (x1lq call x5 [p54.1,(I (-100)),(I 100)] p54.2).bind fun p=>some (p.1,p.2) else some (U,p54.2)).bind fun p55=>
  (bif sW t52 false then (sNot p55.1).bind fun v=>some (v,p55.2) else some (U,p55.2)).bind fun p56=>
  (x1lx t52 (B true) p56.1).bind fun t57=>
  x1lr t57
  (some ((B true),p56.2))
  (xf4 call hs u t1 t2 t3 t7 nilS p56.2 (fc+16)))
noncomputable def xf5 (call:x1lo) (hs:FHs) (u:Nat) (t1 t2 t3 t7 t8 t9 t10:AV) (m:Mem) (fc:Nat):O2:=
 (sEq t9 (I 0)).bind fun t36=>
  x1lr t36
  ((sLd true 2 t3 m).bind fun t38=>
  (x1lq call x7g [t38,t1] m).bind fun p40=>
  (sExt p40.1 0).bind fun t41=>
  (sExt p40.1 1).bind fun t42=>
  xa9 call hs u t1 t2 t3 t7 t8 t42 t41 p40.2 (fc+10))
  (xa9 call hs u t1 t2 t3 t7 t8 t9 t10 m (fc+2))
noncomputable def xju (call:x1lo) (hs:FHs) (u:Nat) (t0 t1 t2:AV) (m:Mem) (fc:Nat):O2:=
 sBox t0 (u,fc,3) m fun t3 m_3=>
  (x1lq call x1d [] m_3).bind fun p15=>
  (sNot p15.1).bind fun t16=>
  x1lr t16
  (some ((B false),p15.2))
  ((sLd true 2 t3 p15.2).bind fun t17=>
  (x1lq call x26 [t17] p15.2).bind fun p18=>
  (sNot p18.1).bind fun t19=>
  (bif sW t19 false then some (t1,p18.2) else some (U,p18.2)).bind fun p21=>
  (bif sW t19 false then (sLen Try.prog x4 p21.1).bind fun v=>some (v,p21.2) else some (U,p21.2)).bind fun p22=>
  (bif sW t19 false then (sGt p22.1 (I 210)).bind fun v=>some (v,p22.2) else some (U,p22.2)).bind fun p23=>
  (x1lx t19 (B true) p23.1).bind fun t24=>
  x1lr t24
  (some ((B true),p23.2))
  ((sLd true 2 t3 p23.2).bind fun t26=>
  (x1lq call xc [t26] p23.2).bind fun p27=>
  (x1lq call xh [t1] p27.2).bind fun p29=>
  (x1lq call x3r [p27.1,p29.1] p29.2).bind fun p30=>
  (sExt p30.1 0).bind fun t31=>
  (sExt p30.1 1).bind fun t32=>
  (sLd true 2 t3 p30.2).bind fun t33=>
  (x1lq call x1m [t33] p30.2).bind fun p34=>
  xf5 call hs u t1 t2 t3 t31 t32 p34.1 (I 0) p34.2 (fc+26)))
noncomputable def xjv (call:x1lo) (hs:FHs) (u:Nat) (t0 t1 t2:AV) (m:Mem) (fc:Nat):O2:=
 sBox t0 (u,fc,3) m fun t3 m_1=>
  sBox t2 (u,fc+1,5) m_1 fun t5 m_2=>
  (x1lq call x1d [] m_2).bind fun p15=>
  (sNot p15.1).bind fun t16=>
  x1lr t16
  (some ((B false),p15.2))
  ((sLd true 2 t3 p15.2).bind fun t17=>
  (x1lq call x5i [t17] p15.2).bind fun p18=>
  (sNot p18.1).bind fun t19=>
  (bif sW t19 false then some (t1,p18.2) else some (U,p18.2)).bind fun p21=>
  (bif sW t19 false then (sLen Try.prog x4 p21.1).bind fun v=>some (v,p21.2) else some (U,p21.2)).bind fun p22=>
  (bif sW t19 false then (sGt p22.1 (I 20)).bind fun v=>some (v,p22.2) else some (U,p22.2)).bind fun p23=>
  (x1lx t19 (B true) p23.1).bind fun t24=>
  (bif sW t24 false then (sIxA 2 1 t5 (I 0)).bind fun v=>some (v,p23.2) else some (U,p23.2)).bind fun p26=>
  (bif sW t24 false then (sLd false 1 p26.1 p26.2).bind fun v=>some (v,p26.2) else some (U,p26.2)).bind fun p27=>
  (bif sW t24 false then (sFA 0 t3).bind fun v=>some (v,p27.2) else some (U,p27.2)).bind fun p28=>
  (bif sW t24 false then (sLd false 1 p28.1 p28.2).bind fun v=>some (v,p28.2) else some (U,p28.2)).bind fun p29=>
  (bif sW t24 false then (sSub p29.1 (I 1)).bind fun v=>some (v,p29.2) else some (U,p29.2)).bind fun p30=>
  (bif sW t24 false then (x1lq call x5 [p27.1,(I 0),p30.1] p30.2).bind fun p=>some (p.1,p.2) else some (U,p30.2)).bind fun p31=>
  (bif sW t24 false then (sNot p31.1).bind fun v=>some (v,p31.2) else some (U,p31.2)).bind fun p32=>
  (x1lx t24 (B true) p32.1).bind fun t33=>
  (bif sW t33 false then (sIxA 2 1 t5 (I 1)).bind fun v=>some (v,p32.2) else some (U,p32.2)).bind fun p35=>
  (bif sW t33 false then (sLd false 1 p35.1 p35.2).bind fun v=>some (v,p35.2) else some (U,p35.2)).bind fun p36=>
  (bif sW t33 false then (sFA 0 t3).bind fun v=>some (v,p36.2) else some (U,p36.2)).bind fun p37=>
  (bif sW t33 false then (sLd false 1 p37.1 p37.2).bind fun v=>some (v,p37.2) else some (U,p37.2)).bind fun p38=>
  (bif sW t33 false then (sSub p38.1 (I 1)).bind fun v=>some (v,p38.2) else some (U,p38.2)).bind fun p39=>
  (bif sW t33 false then (x1lq call x5 [p36.1,(I 0),p39.1] p39.2).bind fun p=>some (p.1,p.2) else some (U,p39.2)).bind fun p40=>
  (bif sW t33 false then (sNot p40.1).bind fun v=>some (v,p40.2) else some (U,p40.2)).bind fun p41=>
  (x1lx t33 (B true) p41.1).bind fun t42=>
  x1lr t42
  (some ((B true),p41.2))
  ((sLd true 2 t3 p41.2).bind fun t44=>
  (x1lq call xc [t44] p41.2).bind fun p45=>
  (x1lq call x2t [p45.1] p45.2).bind fun p46=>
  (sExt p46.1 0).bind fun t47=>
  (sExt p46.1 1).bind fun t48=>
  (sExt p46.1 2).bind fun t49=>
  (sExt p46.1 3).bind fun t50=>
  (sLd true 2 t3 p46.2).bind fun t52=>
  (x1lq call xc [t52] p46.2).bind fun p53=>
  (x1lq call xh [t1] p53.2).bind fun p55=>
  (x1lq call x3r [p53.1,p55.1] p55.2).bind fun p56=>
  (sExt p56.1 0).bind fun t57=>
  (sExt p56.1 1).bind fun t58=>
  (sLd true 2 t3 p56.2).bind fun t60=>
  (x1lq call xc [t60] p56.2).bind fun p61=>
  (sIxA 2 1 t5 (I 0)).bind fun t62=>
  (sLd false 1 t62 p61.2).bind fun t63=>
  (sIxA 2 1 t5 (I 1)).bind fun t64=>
  (sLd false 1 t64 p61.2).bind fun t65=>
  (x1lq call xu [p61.1,t63,t65] p61.2).bind fun p66=>
  (sExt p66.1 0).bind fun t67=>
  (sExt p66.1 1).bind fun t68=>
  x1m5 xe (u,fc+63,13) p66.2 fun t13 m_3=>
  sSt 2 t13 t67 m_3 fun m_4=>
  bif (Nat.ble 1 (mkM 0 [t60])&&true)&&(cAp (some p56.2.next) (tR t62) (mkM 0 [t60])&&(cAp (some p56.2.next) (tR t64) (mkM 0 [t60])&&(x1ls (tR t3) (some [],some [(u,fc+63,13)])&&(cAp (some p56.2.next) (some [],some [(u,fc+63,13)]) (mkM 0 [t60])&&(x1ls (tR t62) (some [],some [(u,fc+63,13)])&&(x1ls (tR t64) (some [],some [(u,fc+63,13)])&&(cAp (some p56.2.next) (some [],some [(u,fc+63,13)]) (mkM 0 [p61.1,t63,t65])&&true))))))) then
  (sNe t50 (I 0)).bind fun t70=>
  (bif sW t70 false then some (t47,m_4) else some (U,m_4)).bind fun p72=>
  (bif sW t70 false then (sLen Try.prog x4 p72.1).bind fun v=>some (v,p72.2) else some (U,p72.2)).bind fun p73=>
  (bif sW t70 false then (sFA 0 t3).bind fun v=>some (v,p73.2) else some (U,p73.2)).bind fun p74=>
  (bif sW t70 false then (sLd false 1 p74.1 p74.2).bind fun v=>some (v,p74.2) else some (U,p74.2)).bind fun p75=>
  (bif sW t70 false then (sNe p73.1 p75.1).bind fun v=>some (v,p75.2) else some (U,p75.2)).bind fun p76=>
  (x1lx t70 (B true) p76.1).bind fun t77=>
  x1lr t77
  (some ((B false),p76.2))
  ((sNe t68 (I 0)).bind fun t79=>
  x1lr t79
  ((sEq t68 (I 25)).bind fun t81=>
  some (t81,p76.2))
  ((sIxA 2 1 t5 (I 1)).bind fun t83=>
  (sLd false 1 t83 p76.2).bind fun t84=>
  (sIx 1 t47 t84).bind fun t85=>
  (sLd false 1 t85 p76.2).bind fun t86=>
  (sIxA 2 1 t5 (I 0)).bind fun t88=>
  (sLd false 1 t88 p76.2).bind fun t89=>
  (sIx 1 t47 t89).bind fun t90=>
  (sLd false 1 t90 p76.2).bind fun t91=>
  (sSub t86 t91).bind fun t92=>
  (sFA 0 t13).bind fun t93=>
  (sLd false 1 t93 p76.2).bind fun t94=>
  (sFA 1 t13).bind fun t95=>
  (sLd false 1 t95 p76.2).bind fun t96=>
  (x1lq call x5 [t92,t94,t96] p76.2).bind fun p97=>
  (sNot p97.1).bind fun t98=>
  x1lr t98
  (some ((B false),p97.2))
  ((sNe t58 (I 0)).bind fun t100=>
  (bif sW t100 false then some (t57,p97.2) else some (U,p97.2)).bind fun p102=>
  (bif sW t100 false then some (t49,p102.2) else some (U,p102.2)).bind fun p103=>
  (bif sW t100 false then (sNe p102.1 p103.1).bind fun v=>some (v,p103.2) else some (U,p103.2)).bind fun p104=>
  (x1lx t100 (B true) p104.1).bind fun t105=>
  (bif sW t105 false then some (t1,p104.2) else some (U,p104.2)).bind fun p107=>
  (bif sW t105 false then (sIxA 2 1 t5 (I 1)).bind fun v=>some (v,p107.2) else some (U,p107.2)).bind fun p108=>
  (bif sW t105 false then (sLd false 1 p108.1 p108.2).bind fun v=>some (v,p108.2) else some (U,p108.2)).bind fun p109=>
  (bif sW t105 false then (sIx 1 p107.1 p109.1).bind fun v=>some (v,p109.2) else some (U,p109.2)).bind fun p110=>
  (bif sW t105 false then (sLd false 1 p110.1 p110.2).bind fun v=>some (v,p110.2) else some (U,p110.2)).bind fun p111=>
  (bif sW t105 false then some (t1,p111.2) else some (U,p111.2)).bind fun p112=>
  (bif sW t105 false then (sIxA 2 1 t5 (I 0)).bind fun v=>some (v,p112.2) else some (U,p112.2)).bind fun p113=>
  (bif sW t105 false then (sLd false 1 p113.1 p113.2).bind fun v=>some (v,p113.2) else some (U,p113.2)).bind fun p114=>
  (bif sW t105 false then (sIx 1 p112.1 p114.1).bind fun v=>some (v,p114.2) else some (U,p114.2)).bind fun p115=>
  (bif sW t105 false then (sLd false 1 p115.1 p115.2).bind fun v=>some (v,p115.2) else some (U,p115.2)).bind fun p116=>
  (bif sW t105 false then (sSub p111.1 p116.1).bind fun v=>some (v,p116.2) else some (U,p116.2)).bind fun p117=>
  (bif sW t105 false then (sFA 0 t13).bind fun v=>some (v,p117.2) else some (U,p117.2)).bind fun p118=>
  (bif sW t105 false then (sLd false 1 p118.1 p118.2).bind fun v=>some (v,p118.2) else some (U,p118.2)).bind fun p119=>
  (bif sW t105 false then (sFA 1 t13).bind fun v=>some (v,p119.2) else some (U,p119.2)).bind fun p120=>
  (bif sW t105 false then (sLd false 1 p120.1 p120.2).bind fun v=>some (v,p120.2) else some (U,p120.2)).bind fun p121=>
  (bif sW t105 false then (x1lq call x5 [p117.1,p119.1,p121.1] p121.2).bind fun p=>some (p.1,p.2) else some (U,p121.2)).bind fun p122=>
  (x1lx t105 (B true) p122.1).bind fun t123=>
  some (t123,p122.2)))) else none))
noncomputable def xaa (call:x1lo) (hs:FHs) (u:Nat) (t5 t6 t7 t8:AV) (m:Mem) (fc:Nat):O2:=
 (sEq t6 t7).bind fun t39=>
  (bif sW t39 true then some (t5,m) else some (U,m)).bind fun p41=>
  (bif sW t39 true then some (t8,p41.2) else some (U,p41.2)).bind fun p42=>
  (bif sW t39 true then (sEq p41.1 p42.1).bind fun v=>some (v,p42.2) else some (U,p42.2)).bind fun p43=>
  (x1lx t39 p43.1 (B false)).bind fun t44=>
  some (t44,p43.2)
noncomputable def xf6 (call:x1lo) (hs:FHs) (u:Nat) (t1 t2 t5 t6 t7 t8:AV) (m:Mem) (fc:Nat):O2:=
 (sEq t7 (I 0)).bind fun t30=>
  x1lr t30
  ((sLd true 2 t2 m).bind fun t32=>
  (x1lq call x7h [t32,t1] m).bind fun p34=>
  (sExt p34.1 0).bind fun t35=>
  (sExt p34.1 1).bind fun t36=>
  xaa call hs u t5 t6 t36 t35 p34.2 (fc+10))
  (xaa call hs u t5 t6 t7 t8 m (fc+2))
noncomputable def xjw (call:x1lo) (hs:FHs) (u:Nat) (t0 t1:AV) (m:Mem) (fc:Nat):O2:=
 sBox t0 (u,fc,2) m fun t2 m_1=>
  (x1lq call x1d [] m_1).bind fun p9=>
  (sNot p9.1).bind fun t10=>
  x1lr t10
  (some ((B false),p9.2))
  ((sLd true 2 t2 p9.2).bind fun t11=>
  (x1lq call x26 [t11] p9.2).bind fun p12=>
  (sNot p12.1).bind fun t13=>
  (bif sW t13 false then some (t1,p12.2) else some (U,p12.2)).bind fun p15=>
  (bif sW t13 false then (sLen Try.prog x4 p15.1).bind fun v=>some (v,p15.2) else some (U,p15.2)).bind fun p16=>
  (bif sW t13 false then (sGt p16.1 (I 20)).bind fun v=>some (v,p16.2) else some (U,p16.2)).bind fun p17=>
  (x1lx t13 (B true) p17.1).bind fun t18=>
  x1lr t18
  (some ((B true),p17.2))
  ((sLd true 2 t2 p17.2).bind fun t20=>
  (x1lq call xc [t20] p17.2).bind fun p21=>
  (x1lq call xh [t1] p21.2).bind fun p23=>
  (x1lq call x4t [p21.1,p23.1] p23.2).bind fun p24=>
  (sExt p24.1 0).bind fun t25=>
  (sExt p24.1 1).bind fun t26=>
  (sLd true 2 t2 p24.2).bind fun t27=>
  (x1lq call x1m [t27] p24.2).bind fun p28=>
  xf6 call hs u t1 t2 t25 t26 p28.1 (I 0) p28.2 (fc+26)))
noncomputable def xjx (call:x1lo) (hs:FHs) (u:Nat) (t0 t1 t2:AV) (m:Mem) (fc:Nat):O2:=
 sBox t0 (u,fc,3) m fun t3 m_1=>
  (x1lq call x1d [] m_1).bind fun p17=>
  (sNot p17.1).bind fun t18=>
  x1lr t18
  (some ((B false),p17.2))
  ((sLd true 2 t3 p17.2).bind fun t19=>
  (x1lq call x5i [t19] p17.2).bind fun p20=>
  (sNot p20.1).bind fun t21=>
  (bif sW t21 false then some (t1,p20.2) else some (U,p20.2)).bind fun p23=>
  (bif sW t21 false then (sLen Try.prog x4 p23.1).bind fun v=>some (v,p23.2) else some (U,p23.2)).bind fun p24=>
  (bif sW t21 false then (sGt p24.1 (I 20)).bind fun v=>some (v,p24.2) else some (U,p24.2)).bind fun p25=>
  (x1lx t21 (B true) p25.1).bind fun t26=>
  (bif sW t26 false then some (t2,p25.2) else some (U,p25.2)).bind fun p28=>
  (bif sW t26 false then (sLen Try.prog x4 p28.1).bind fun v=>some (v,p28.2) else some (U,p28.2)).bind fun p29=>
  (bif sW t26 false then (sGt p29.1 (I 20)).bind fun v=>some (v,p29.2) else some (U,p29.2)).bind fun p30=>
  (x1lx t26 (B true) p30.1).bind fun t31=>
  x1lr t31
  (some ((B true),p30.2))
  ((sLd true 2 t3 p30.2).bind fun t33=>
  (x1lq call xc [t33] p30.2).bind fun p34=>
  (x1lq call x2t [p34.1] p34.2).bind fun p35=>
  (sExt p35.1 0).bind fun t36=>
  (sExt p35.1 1).bind fun t37=>
  (sExt p35.1 2).bind fun t38=>
  (sExt p35.1 3).bind fun t39=>
  (sLd true 2 t3 p35.2).bind fun t41=>
  (x1lq call xc [t41] p35.2).bind fun p42=>
  (x1lq call xh [t1] p42.2).bind fun p44=>
  (x1lq call x3r [p42.1,p44.1] p44.2).bind fun p45=>
  (sExt p45.1 0).bind fun t46=>
  (sExt p45.1 1).bind fun t47=>
  (sLd true 2 t3 p45.2).bind fun t49=>
  (x1lq call xc [t49] p45.2).bind fun p50=>
  (x1lq call xh [t2] p50.2).bind fun p52=>
  (x1lq call x4t [p50.1,p52.1] p52.2).bind fun p53=>
  (sExt p53.1 0).bind fun t54=>
  (sExt p53.1 1).bind fun t55=>
  (sLd true 2 t3 p53.2).bind fun t57=>
  (x1lq call xc [t57] p53.2).bind fun p58=>
  (x1lq call xh [t37] p58.2).bind fun p60=>
  (x1lq call x4t [p58.1,p60.1] p60.2).bind fun p61=>
  (sExt p61.1 0).bind fun t62=>
  (sExt p61.1 1).bind fun t63=>
  (sNe t39 (I 0)).bind fun t65=>
  (bif sW t65 false then some (t63,p61.2) else some (U,p61.2)).bind fun p67=>
  (bif sW t65 false then (sNe p67.1 (I 0)).bind fun v=>some (v,p67.2) else some (U,p67.2)).bind fun p68=>
  (x1lx t65 (B true) p68.1).bind fun t69=>
  (bif sW t69 false then some (t62,p68.2) else some (U,p68.2)).bind fun p71=>
  (bif sW t69 false then some (t38,p71.2) else some (U,p71.2)).bind fun p72=>
  (bif sW t69 false then (sNe p71.1 p72.1).bind fun v=>some (v,p72.2) else some (U,p72.2)).bind fun p73=>
  (x1lx t69 (B true) p73.1).bind fun t74=>
  x1lr t74
  (some ((B false),p73.2))
  ((sNe t47 (I 0)).bind fun t76=>
  (bif sW t76 false then some (t46,p73.2) else some (U,p73.2)).bind fun p78=>
  (bif sW t76 false then some (t38,p78.2) else some (U,p78.2)).bind fun p79=>
  (bif sW t76 false then (sGe p78.1 p79.1).bind fun v=>some (v,p79.2) else some (U,p79.2)).bind fun p80=>
  (bif sW t76 false then some (p80.1,p80.2) else some (U,p80.2)).bind fun p81=>
  (bif sW p81.1 true then some (t55,p81.2) else some (U,p81.2)).bind fun p82=>
  (bif sW p81.1 true then (sNe p82.1 (I 0)).bind fun v=>some (v,p82.2) else some (U,p82.2)).bind fun p83=>
  (bif sW p81.1 true then some (p83.1,p83.2) else some (U,p83.2)).bind fun p84=>
  (bif sW p84.1 false then some (t46,p84.2) else some (U,p84.2)).bind fun p85=>
  (bif sW p84.1 false then some (t54,p85.2) else some (U,p85.2)).bind fun p86=>
  (bif sW p84.1 false then (sGe p85.1 p86.1).bind fun v=>some (v,p86.2) else some (U,p86.2)).bind fun p87=>
  (bif sW p81.1 true then (x1lx p84.1 (B true) p87.1).bind fun v=>some (v,p87.2) else some (U,p87.2)).bind fun p88=>
  (bif sW t76 false then (x1lx p81.1 p88.1 (B false)).bind fun v=>some (v,p88.2) else some (U,p88.2)).bind fun p89=>
  (x1lx t76 (B true) p89.1).bind fun t90=>
  (bif sW t90 true then some (t55,p89.2) else some (U,p89.2)).bind fun p92=>
  (bif sW t90 true then (sNe p92.1 (I 0)).bind fun v=>some (v,p92.2) else some (U,p92.2)).bind fun p93=>
  (bif sW t90 true then some (p93.1,p93.2) else some (U,p93.2)).bind fun p94=>
  (bif sW p94.1 false then some (t54,p94.2) else some (U,p94.2)).bind fun p95=>
  (bif sW p94.1 false then some (t38,p95.2) else some (U,p95.2)).bind fun p96=>
  (bif sW p94.1 false then (sLe p95.1 p96.1).bind fun v=>some (v,p96.2) else some (U,p96.2)).bind fun p97=>
  (bif sW t90 true then (x1lx p94.1 (B true) p97.1).bind fun v=>some (v,p97.2) else some (U,p97.2)).bind fun p98=>
  (x1lx t90 p98.1 (B false)).bind fun t99=>
  some (t99,p98.2))))
noncomputable def xab (call:x1lo) (hs:FHs) (u:Nat) (t5 t6 t7 t8:AV) (m:Mem) (fc:Nat):O2:=
 (sEq t6 t7).bind fun t50=>
  (bif sW t50 true then some (t5,m) else some (U,m)).bind fun p52=>
  (bif sW t50 true then some (t8,p52.2) else some (U,p52.2)).bind fun p53=>
  (bif sW t50 true then (x1lq call x27 [p52.1,p53.1] p53.2).bind fun p=>some (p.1,p.2) else some (U,p53.2)).bind fun p54=>
  (x1lx t50 p54.1 (B false)).bind fun t55=>
  some (t55,p54.2)
noncomputable def xf7 (call:x1lo) (hs:FHs) (u:Nat) (t1 t2 t5 t6 t7 t8:AV) (m:Mem) (fc:Nat):O2:=
 (sEq t7 (I 0)).bind fun t41=>
  x1lr t41
  ((sLd true 3 t2 m).bind fun t43=>
  (x1lq call x7s [t43,t1] m).bind fun p45=>
  (sExt p45.1 0).bind fun t46=>
  (sExt p45.1 1).bind fun t47=>
  xab call hs u t5 t6 t47 t46 p45.2 (fc+10))
  (xab call hs u t5 t6 t7 t8 m (fc+2))
noncomputable def xjy (call:x1lo) (hs:FHs) (u:Nat) (t0 t1:AV) (m:Mem) (fc:Nat):O2:=
 sBox t0 (u,fc,2) m fun t2 m_1=>
  (x1lq call x1d [] m_1).bind fun p9=>
  (sNot p9.1).bind fun t10=>
  x1lr t10
  (some ((B false),p9.2))
  ((sFA 2 t2).bind fun t11=>
  (sLd false 1 t11 p9.2).bind fun t12=>
  (sLen Try.prog x4 t12).bind fun t13=>
  (sGt t13 (I 70)).bind fun t14=>
  (bif sW t14 false then some (t1,p9.2) else some (U,p9.2)).bind fun p16=>
  (bif sW t14 false then (sLen Try.prog x4 p16.1).bind fun v=>some (v,p16.2) else some (U,p16.2)).bind fun p17=>
  (bif sW t14 false then (sGt p17.1 (I 30)).bind fun v=>some (v,p17.2) else some (U,p17.2)).bind fun p18=>
  (bif sW t14 false then some (p18.1,p18.2) else some (U,p18.2)).bind fun p19=>
  (bif sW p19.1 true then some (t1,p19.2) else some (U,p19.2)).bind fun p20=>
  (bif sW p19.1 true then (sLen Try.prog x4 p20.1).bind fun v=>some (v,p20.2) else some (U,p20.2)).bind fun p21=>
  (bif sW p19.1 true then (sLe p21.1 (I 200)).bind fun v=>some (v,p21.2) else some (U,p21.2)).bind fun p22=>
  (bif sW t14 false then (x1lx p19.1 p22.1 (B false)).bind fun v=>some (v,p22.2) else some (U,p22.2)).bind fun p23=>
  (x1lx t14 (B true) p23.1).bind fun t24=>
  (bif sW t24 false then some (t1,p23.2) else some (U,p23.2)).bind fun p26=>
  (bif sW t24 false then (sLen Try.prog x4 p26.1).bind fun v=>some (v,p26.2) else some (U,p26.2)).bind fun p27=>
  (bif sW t24 false then (sGt p27.1 (I 202)).bind fun v=>some (v,p27.2) else some (U,p27.2)).bind fun p28=>
  (x1lx t24 (B true) p28.1).bind fun t29=>
  x1lr t29
  (some ((B true),p28.2))
  ((sLd true 3 t2 p28.2).bind fun t31=>
  (x1lq call x5j [t31] p28.2).bind fun p32=>
  (x1lq call xh [t1] p32.2).bind fun p34=>
  (x1lq call x7q [p32.1,p34.1] p34.2).bind fun p35=>
  (sExt p35.1 0).bind fun t36=>
  (sExt p35.1 1).bind fun t37=>
  (sLd true 3 t2 p35.2).bind fun t38=>
  (x1lq call x7r [t38] p35.2).bind fun p39=>
  xf7 call hs u t1 t2 t36 t37 p39.1 nilS p39.2 (fc+37)))
noncomputable def xjz (call:x1lo) (hs:FHs) (u:Nat) (m:Mem) (fc:Nat):O2:=
 (x1lq call x5k [(I 2)] m).bind fun p14=>
  (x1lq call x2t [p14.1] p14.2).bind fun p15=>
  (sExt p15.1 0).bind fun t16=>
  (sExt p15.1 1).bind fun t17=>
  (sExt p15.1 2).bind fun t18=>
  (sExt p15.1 3).bind fun t19=>
  (x1lq call x5k [(I 2)] p15.2).bind fun p21=>
  (x1lq call xu [p21.1,(I 0),(I 1)] p21.2).bind fun p22=>
  (sExt p22.1 0).bind fun t23=>
  (sExt p22.1 1).bind fun t24=>
  x1m5 xe (u,fc+17,5) p22.2 fun t5 m_1=>
  sSt 2 t5 t23 m_1 fun m_2=>
  (x1lq call x5l [(I 0)] m_2).bind fun p26=>
  (x1lq call x7p [p26.1] p26.2).bind fun p27=>
  (sExt p27.1 0).bind fun t28=>
  (sExt p27.1 1).bind fun t29=>
  (sExt p27.1 2).bind fun t30=>
  (sExt p27.1 3).bind fun t31=>
  x1m5 x1p (u,fc+27,7) p27.2 fun t7 m_3=>
  sSt 3 t7 t28 m_3 fun m_4=>
  (x1lq call x5l [(I 1)] m_4).bind fun p33=>
  (x1lq call x7u [p33.1] p33.2).bind fun p34=>
  (sExt p34.1 0).bind fun t35=>
  (sExt p34.1 1).bind fun t36=>
  (sEq t19 (I 0)).bind fun t38=>
  (bif sW t38 true then some (t18,p34.2) else some (U,p34.2)).bind fun p40=>
  (bif sW t38 true then (sEq p40.1 (I 2)).bind fun v=>some (v,p40.2) else some (U,p40.2)).bind fun p41=>
  (x1lx t38 p41.1 (B false)).bind fun t42=>
  (bif sW t42 true then some (t16,p41.2) else some (U,p41.2)).bind fun p44=>
  (bif sW t42 true then x1ma x1mc [(0,1,(I 0)),(1,1,(I (-1))),(2,1,(I (-1)))] 3 1 (u,fc+47,45) p44.2 fun v m=>some (v,m) else some (U,p44.2)).bind fun p45=>
  (bif sW t42 true then (x1lq call x27 [p44.1,p45.1] p45.2).bind fun p=>some (p.1,p.2) else some (U,p45.2)).bind fun p46=>
  (x1lx t42 p46.1 (B false)).bind fun t47=>
  (bif sW t47 true then some (t17,p46.2) else some (U,p46.2)).bind fun p49=>
  (bif sW t47 true then x1ma x1mc [(0,1,(I 2)),(1,1,(I 2)),(2,1,(I 2))] 3 1 (u,fc+52,50) p49.2 fun v m=>some (v,m) else some (U,p49.2)).bind fun p50=>
  (bif sW t47 true then (x1lq call x27 [p49.1,p50.1] p50.2).bind fun p=>some (p.1,p.2) else some (U,p50.2)).bind fun p51=>
  (x1lx t47 p51.1 (B false)).bind fun t52=>
  (bif sW t52 true then some (t24,p51.2) else some (U,p51.2)).bind fun p54=>
  (bif sW t52 true then (sEq p54.1 (I 0)).bind fun v=>some (v,p54.2) else some (U,p54.2)).bind fun p55=>
  (x1lx t52 p55.1 (B false)).bind fun t56=>
  (bif sW t56 true then (sLd true 2 t5 p55.2).bind fun v=>some (v,p55.2) else some (U,p55.2)).bind fun p58=>
  (bif sW t56 true then (x1m4 xe [(0,1,(I (-1))),(1,1,(I (-1)))]).bind fun v=>some (v,p58.2) else some (U,p58.2)).bind fun p59=>
  (bif sW t56 true then (sBin Try.prog .eql x2x (.tmp 58) (.tmp 59) p58.1 p59.1).bind fun v=>some (v,p59.2) else some (U,p59.2)).bind fun p60=>
  (x1lx t56 p60.1 (B false)).bind fun t61=>
  (bif sW t61 true then some (t31,p60.2) else some (U,p60.2)).bind fun p63=>
  (bif sW t61 true then (sEq p63.1 (I 0)).bind fun v=>some (v,p63.2) else some (U,p63.2)).bind fun p64=>
  (x1lx t61 p64.1 (B false)).bind fun t65=>
  (bif sW t65 true then some (t30,p64.2) else some (U,p64.2)).bind fun p67=>
  (bif sW t65 true then (sEq p67.1 (I 2)).bind fun v=>some (v,p67.2) else some (U,p67.2)).bind fun p68=>
  (x1lx t65 p68.1 (B false)).bind fun t69=>
  (bif sW t69 true then some (t36,p68.2) else some (U,p68.2)).bind fun p71=>
  (bif sW t69 true then (sEq p71.1 (I 0)).bind fun v=>some (v,p71.2) else some (U,p71.2)).bind fun p72=>
  (x1lx t69 p72.1 (B false)).bind fun t73=>
  (bif sW t73 true then some (t35,p72.2) else some (U,p72.2)).bind fun p75=>
  (bif sW t73 true then (sLen Try.prog xwy p75.1).bind fun v=>some (v,p75.2) else some (U,p75.2)).bind fun p76=>
  (bif sW t73 true then (sEq p76.1 (I 4)).bind fun v=>some (v,p76.2) else some (U,p76.2)).bind fun p77=>
  (x1lx t73 p77.1 (B false)).bind fun t78=>
  some (t78,p77.2)
noncomputable def x43 (call:x1lo) (hs:FHs) (u:Nat) (m:Mem) (fc:Nat):O2:=
 some ((B true),m)
noncomputable def xac (call:x1lo) (hs:FHs) (u:Nat) (rec0:AV→AV→Mem→Nat→O2) (t1 t3:AV) (m:Mem) (fc:Nat):O2:=
 (sFA 1 t1).bind fun t33=>
  (sLd false 1 t33 m).bind fun t34=>
  (sLen Try.prog x6 t34).bind fun t35=>
  (sLt t3 t35).bind fun t36=>
  x1lr t36
  ((sFA 1 t1).bind fun t39=>
  (sLd false 1 t39 m).bind fun t40=>
  (sIx 4 t40 t3).bind fun t42=>
  (sFA 3 t42).bind fun t43=>
  (sLd false 1 t43 m).bind fun t44=>
  (sGt t44 (I 20)).bind fun t45=>
  (bif sW t45 false then (sFA 1 t1).bind fun v=>some (v,m) else some (U,m)).bind fun p47=>
  (bif sW t45 false then (sLd false 1 p47.1 p47.2).bind fun v=>some (v,p47.2) else some (U,p47.2)).bind fun p48=>
  (bif sW t45 false then some (t3,p48.2) else some (U,p48.2)).bind fun p49=>
  (bif sW t45 false then (sIx 4 p48.1 p49.1).bind fun v=>some (v,p49.2) else some (U,p49.2)).bind fun p50=>
  (bif sW t45 false then (sFA 2 p50.1).bind fun v=>some (v,p50.2) else some (U,p50.2)).bind fun p51=>
  (bif sW t45 false then (sLd false 1 p51.1 p51.2).bind fun v=>some (v,p51.2) else some (U,p51.2)).bind fun p52=>
  (bif sW t45 false then (x1lq call x29 [p52.1] p52.2).bind fun p=>some (p.1,p.2) else some (U,p52.2)).bind fun p53=>
  (bif sW t45 false then (sGt p53.1 (I 5)).bind fun v=>some (v,p53.2) else some (U,p53.2)).bind fun p54=>
  (x1lx t45 (B true) p54.1).bind fun t55=>
  x1lr t55
  (some ((B false),p54.2))
  ((sAdd t3 (I 1)).bind fun t38=>
  rec0 t1 t38 p54.2 (fc+25)))
  (x43 call hs u m (fc+5))
noncomputable def x2y (call:x1lo) (hs:FHs) (u:Nat):Nat→AV→AV→Mem→Nat→O2
 | 0=>fun _ _ _ _=>none
 | n+1=>fun t1 t3 m fc=>xac call hs u (x2y call hs u n) t1 t3 m fc
noncomputable def xad (call:x1lo) (hs:FHs) (u:Nat) (t1:AV) (m:Mem) (fc:Nat):O2:=
 x2y call hs u NN t1 (I 0) m (fc+1)
noncomputable def xf8 (call:x1lo) (hs:FHs) (u:Nat) (t0:AV) (m:Mem) (fc:Nat):O2:=
 sBox t0 (u,fc,1) m fun t1 m_1=>
  (sLd true 2 t1 m_1).bind fun t4=>
  (x1lq call x1m [t4] m_1).bind fun p5=>
  (sNe p5.1 (I 0)).bind fun t6=>
  x1lr t6
  ((sFA 1 t1).bind fun t7=>
  (sLd false 1 t7 p5.2).bind fun t8=>
  (sLen Try.prog x6 t8).bind fun t9=>
  (sLe t9 (I 16)).bind fun t10=>
  (bif sW t10 false then (sFA 1 t1).bind fun v=>some (v,p5.2) else some (U,p5.2)).bind fun p12=>
  (bif sW t10 false then (sLd false 1 p12.1 p12.2).bind fun v=>some (v,p12.2) else some (U,p12.2)).bind fun p13=>
  (bif sW t10 false then (sLen Try.prog x6 p13.1).bind fun v=>some (v,p13.2) else some (U,p13.2)).bind fun p14=>
  (bif sW t10 false then (sGt p14.1 (I 600)).bind fun v=>some (v,p14.2) else some (U,p14.2)).bind fun p15=>
  (bif sW t10 false then some (p15.1,p15.2) else some (U,p15.2)).bind fun p16=>
  (bif sW p16.1 true then (sFA 1 t1).bind fun v=>some (v,p16.2) else some (U,p16.2)).bind fun p17=>
  (bif sW p16.1 true then (sLd false 1 p17.1 p17.2).bind fun v=>some (v,p17.2) else some (U,p17.2)).bind fun p18=>
  (bif sW p16.1 true then (sLen Try.prog x6 p18.1).bind fun v=>some (v,p18.2) else some (U,p18.2)).bind fun p19=>
  (bif sW p16.1 true then (sLe p19.1 (I 602)).bind fun v=>some (v,p19.2) else some (U,p19.2)).bind fun p20=>
  (bif sW t10 false then (x1lx p16.1 p20.1 (B false)).bind fun v=>some (v,p20.2) else some (U,p20.2)).bind fun p21=>
  (x1lx t10 (B true) p21.1).bind fun t22=>
  some (t22,p21.2))
  ((sFA 0 t1).bind fun t23=>
  (sLd false 1 t23 p5.2).bind fun t24=>
  (sGt t24 (I 10)).bind fun t25=>
  (bif sW t25 false then (sFA 1 t1).bind fun v=>some (v,p5.2) else some (U,p5.2)).bind fun p27=>
  (bif sW t25 false then (sLd false 1 p27.1 p27.2).bind fun v=>some (v,p27.2) else some (U,p27.2)).bind fun p28=>
  (bif sW t25 false then (sLen Try.prog x6 p28.1).bind fun v=>some (v,p28.2) else some (U,p28.2)).bind fun p29=>
  (bif sW t25 false then (sGt p29.1 (I 16)).bind fun v=>some (v,p29.2) else some (U,p29.2)).bind fun p30=>
  (x1lx t25 (B true) p30.1).bind fun t31=>
  x1lr t31
  (some ((B false),p30.2))
  (xad call hs u t1 p30.2 (fc+14)))
noncomputable def xae (call:x1lo) (hs:FHs) (u:Nat) (t0:AV) (m:Mem) (fc:Nat):O2:=
 sBox t0 (u,fc,1) m fun t1 m_1=>
  (sLd true 2 t1 m_1).bind fun t10=>
  (x1lq call x1n [t10] m_1).bind fun p11=>
  (sExt p11.1 0).bind fun t12=>
  (sExt p11.1 1).bind fun t13=>
  x1m5 x1e (u,fc+10,6) p11.2 fun t6 m_2=>
  sSt 2 t6 t12 m_2 fun m_3=>
  (sNe t13 (I 0)).bind fun t15=>
  x1lr t15
  (some (AV.tup [nilS,nilS,(I 0),t13],m_3))
  ((sLd true 2 t6 m_3).bind fun t17=>
  (x1o5 call x11 [t17] m_3).bind fun p18=>
  (sNil p18.1).bind fun t20=>
  (sFA 3 t20).bind fun t21=>
  (sLd false 1 t21 p18.2).bind fun t22=>
  (sNil p18.1).bind fun t24=>
  (sFA 2 t24).bind fun t25=>
  (sLd false 1 t25 p18.2).bind fun t26=>
  (sLd true 2 t6 p18.2).bind fun t27=>
  (sNil p18.1).bind fun t29=>
  (sFA 3 t29).bind fun t30=>
  (sLd false 1 t30 p18.2).bind fun t31=>
  (x1qm call x2a [t27,t31] p18.2).bind fun p32=>
  bif (Nat.ble 1 (mkM 3 [t27,t31])&&true)&&(cAp none (tR t21) (mkM 3 [t27,t31])&&(cAp none (tR t25) (mkM 3 [t27,t31])&&true)) then
  some (AV.tup [t22,t26,p32.1,(I 0)],p32.2) else none)
noncomputable def xaf (call:x1lo) (hs:FHs) (u:Nat) (t0:AV) (m:Mem) (fc:Nat):O2:=
 sBox t0 (u,fc,1) m fun t1 m_1=>
  x1m5 x44 (u,fc+1,2) m_1 fun t2 m_2=>
  (sFA 0 t1).bind fun t3=>
  (sLd false 1 t3 m_2).bind fun t4=>
  x1ma xb [] 0 4 (u,fc+4,5) m_2 fun t5 m_3=>
  (sFA 1 t1).bind fun t6=>
  (sLd false 1 t6 m_3).bind fun t7=>
  sApp 4 32 (u,fc+7,8) (elems m_3.get 4 t7) t5 m_3 fun t8 m_4=>
  (x1m4 x44 [(0,1,t4),(1,1,t8)]).bind fun t9=>
  sSt 2 t2 t9 m_4 fun m_5=>
  bif (x1ls (tR t3) (some [],some [(u,fc+4,5)])&&(x1ls (some [],some [(u,fc+4,5)]) (tR t6)&&(x1ls (tR t3) (tX t7,tA (u,fc+7,8) t5)&&true))) then
  (sLdP true 2 t2 m_5).bind fun r0=>
  some (r0,m_5) else none
noncomputable def xf9 (call:x1lo) (hs:FHs) (u:Nat) (t0:AV) (m:Mem) (fc:Nat):O2:=
 sBox t0 (u,fc,1) m fun t1 m_1=>
  (sLd true 2 t1 m_1).bind fun t6=>
  (x1lq call x3s [t6] m_1).bind fun p7=>
  (sExt p7.1 0).bind fun t8=>
  (sExt p7.1 1).bind fun t9=>
  some (t9,p7.2)
noncomputable def x4x (call:x1lo) (hs:FHs) (u:Nat) (t1 t2:AV) (m:Mem) (fc:Nat):O2:=
 (sLd true 2 t2 m).bind fun t24=>
  (x1lq call x7t [t24,t1] m).bind fun p26=>
  some (AV.tup [p26.1,(I 0)],p26.2)
noncomputable def xk0 (call:x1lo) (hs:FHs) (u:Nat) (rec0:AV→AV→AV→Mem→Nat→O2) (t1 t2 t6:AV) (m:Mem) (fc:Nat):O2:=
 (sLen Try.prog x4 t1).bind fun t14=>
  (sLt t6 t14).bind fun t15=>
  x1lr t15
  ((sIx 1 t1 t6).bind fun t20=>
  (sLd false 1 t20 m).bind fun t21=>
  (x1lq call x5 [t21,(I (-1000000)),(I 1000000)] m).bind fun p22=>
  (sNot p22.1).bind fun t23=>
  x1lr t23
  (some (AV.tup [(I 0),(I 2)],p22.2))
  ((sAdd t6 (I 1)).bind fun t17=>
  rec0 t1 t2 t17 p22.2 (fc+13)))
  (x4x call hs u t1 t2 m (fc+4))
noncomputable def x5v (call:x1lo) (hs:FHs) (u:Nat):Nat→AV→AV→AV→Mem→Nat→O2
 | 0=>fun _ _ _ _ _=>none
 | n+1=>fun t1 t2 t6 m fc=>xk0 call hs u (x5v call hs u n) t1 t2 t6 m fc
noncomputable def xfa (call:x1lo) (hs:FHs) (u:Nat) (t1 t2:AV) (m:Mem) (fc:Nat):O2:=
 x5v call hs u NN t1 t2 (I 0) m (fc+1)
noncomputable def xk1 (call:x1lo) (hs:FHs) (u:Nat) (t0 t1:AV) (m:Mem) (fc:Nat):O2:=
 sBox t0 (u,fc,2) m fun t2 m_1=>
  (sLen Try.prog x4 t1).bind fun t8=>
  (sFA 0 t2).bind fun t9=>
  (sLd false 1 t9 m_1).bind fun t10=>
  (sNe t8 t10).bind fun t11=>
  x1lr t11
  (some (AV.tup [(I 0),(I 10)],m_1))
  (xfa call hs u t1 t2 m_1 (fc+8))
noncomputable def x4y (call:x1lo) (hs:FHs) (u:Nat) (t7:AV) (m:Mem) (fc:Nat):O2:=
 some (AV.tup [t7,(I 0)],m)
noncomputable def xk2 (call:x1lo) (hs:FHs) (u:Nat) (rec0:AV→AV→AV→AV→Mem→Nat→O2) (t2 t6 t7 t10:AV) (m:Mem) (fc:Nat):O2:=
 (sFA 0 t2).bind fun t80=>
  (sLd false 1 t80 m).bind fun t81=>
  (sLt t10 t81).bind fun t82=>
  x1lr t82
  ((sIx 1 t6 t10).bind fun t87=>
  (sLd false 1 t87 m).bind fun t88=>
  (sNe t88 (I 0)).bind fun t89=>
  x1lr t89
  (some (AV.tup [(I 0),(I 25)],m))
  ((sAdd t10 (I 1)).bind fun t84=>
  rec0 t2 t6 t7 t84 m (fc+12)))
  (x4y call hs u t7 m (fc+4))
noncomputable def x5w (call:x1lo) (hs:FHs) (u:Nat):Nat→AV→AV→AV→AV→Mem→Nat→O2
 | 0=>fun _ _ _ _ _ _=>none
 | n+1=>fun t2 t6 t7 t10 m fc=>xk2 call hs u (x5w call hs u n) t2 t6 t7 t10 m fc
noncomputable def x45 (call:x1lo) (hs:FHs) (u:Nat) (t2 t6 t7:AV) (m:Mem) (fc:Nat):O2:=
 x5w call hs u NN t2 t6 t7 (I 0) m (fc+1)
noncomputable def xk3 (call:x1lo) (hs:FHs) (u:Nat) (rec1:AV→AV→AV→AV→AV→Mem→Nat→O2) (t1 t2 t6 t7 t8:AV) (m:Mem) (fc:Nat):O2:=
 (sLen Try.prog x4 t1).bind fun t22=>
  (sLt t8 t22).bind fun t23=>
  x1lr t23
  ((sFA 1 t2).bind fun t26=>
  (sLd false 1 t26 m).bind fun t27=>
  (sIx 4 t27 t8).bind fun t29=>
  (sLd true 4 t29 m).bind fun t30=>
  x1m5 xb (u,fc+9,9) m fun t9 m_1=>
  sSt 4 t9 t30 m_1 fun m_2=>
  (sIx 1 t1 t8).bind fun t33=>
  (sLd false 1 t33 m_2).bind fun t34=>
  (sFA 3 t9).bind fun t35=>
  (sLd false 1 t35 m_2).bind fun t36=>
  (sNeg t36).bind fun t37=>
  (sFA 3 t9).bind fun t38=>
  (sLd false 1 t38 m_2).bind fun t39=>
  (x1lq call x5 [t34,t37,t39] m_2).bind fun p40=>
  (sNot p40.1).bind fun t41=>
  x1lr t41
  (some (AV.tup [(I 0),(I 2)],p40.2))
  ((sFA 1 t9).bind fun t43=>
  (sLd false 1 t43 p40.2).bind fun t44=>
  (sFA 0 t9).bind fun t46=>
  (sLd false 1 t46 p40.2).bind fun t47=>
  (sFA 1 t9).bind fun t49=>
  (sLd false 1 t49 p40.2).bind fun t50=>
  (sIx 1 t6 t50).bind fun t51=>
  (sLd false 1 t51 p40.2).bind fun t52=>
  (sIx 1 t1 t8).bind fun t55=>
  (sLd false 1 t55 p40.2).bind fun t56=>
  (sAdd t52 t56).bind fun t57=>
  (sFA 0 t9).bind fun t59=>
  (sLd false 1 t59 p40.2).bind fun t60=>
  (sIx 1 t6 t60).bind fun t61=>
  (sLd false 1 t61 p40.2).bind fun t62=>
  (sIx 1 t1 t8).bind fun t65=>
  (sLd false 1 t65 p40.2).bind fun t66=>
  (sSub t62 t66).bind fun t67=>
  (sIx 1 t1 t8).bind fun t71=>
  (sLd false 1 t71 p40.2).bind fun t72=>
  (sFA 2 t9).bind fun t73=>
  (sLd false 1 t73 p40.2).bind fun t74=>
  (sMul t72 t74).bind fun t75=>
  (sAdd t7 t75).bind fun t76=>
  (sIx 1 t6 t44).bind fun t77=>
  sSt 1 t77 t57 p40.2 fun m_3=>
  (sIx 1 t6 t47).bind fun t78=>
  sSt 1 t78 t67 m_3 fun m_4=>
  bif (x1ls (tR t46) (tS t77)&&(x1ls (tR t73) (tS t77)&&(x1ls (tR t73) (tS t78)&&true))) then
  (sAdd t8 (I 1)).bind fun t25=>
  rec1 t1 t2 t6 t76 t25 m_4 (fc+65) else none))
  (x45 call hs u t2 t6 t7 m (fc+4))
noncomputable def x5x (call:x1lo) (hs:FHs) (u:Nat):Nat→AV→AV→AV→AV→AV→Mem→Nat→O2
 | 0=>fun _ _ _ _ _ _ _=>none
 | n+1=>fun t1 t2 t6 t7 t8 m fc=>xk3 call hs u (x5x call hs u n) t1 t2 t6 t7 t8 m fc
noncomputable def xfb (call:x1lo) (hs:FHs) (u:Nat) (t1 t2 t6 t7:AV) (m:Mem) (fc:Nat):O2:=
 x5x call hs u NN t1 t2 t6 t7 (I 0) m (fc+1)
noncomputable def xk4 (call:x1lo) (hs:FHs) (u:Nat) (t0 t1:AV) (m:Mem) (fc:Nat):O2:=
 sBox t0 (u,fc,2) m fun t2 m_5=>
  (sLen Try.prog x4 t1).bind fun t12=>
  (sFA 1 t2).bind fun t13=>
  (sLd false 1 t13 m_5).bind fun t14=>
  (sLen Try.prog x6 t14).bind fun t15=>
  (sNe t12 t15).bind fun t16=>
  x1lr t16
  (some (AV.tup [(I 0),(I 10)],m_5))
  ((sFA 0 t2).bind fun t17=>
  (sLd false 1 t17 m_5).bind fun t18=>
  x1mr x1mc 1 8 t18 t18 (u,fc+11,19) m_5 fun t19 m_6=>
  xfb call hs u t1 t2 t19 (I 0) m_6 (fc+14))
noncomputable def xk5 (call:x1lo) (hs:FHs) (u:Nat) (t0:AV) (m:Mem) (fc:Nat):O2:=
 sBox t0 (u,fc,1) m fun t1 m_1=>
  (sLd true 2 t1 m_1).bind fun t3=>
  (sLd true 2 t1 m_1).bind fun t4=>
  (x1lq call x28 [t4] m_1).bind fun p5=>
  (x1lq call x7z [t3,p5.1] p5.2).bind fun p6=>
  bif (cAp none (tR t1) (mkM 0 [t4])&&true) then
  some (p6.1,p6.2) else none
noncomputable def xd (call:x1lo) (hs:FHs) (u:Nat) (t3:AV) (m:Mem) (fc:Nat):O2:=
 (x1lq call x2v [t3] m).bind fun p81=>
  some (p81.1,p81.2)
noncomputable def xq (call:x1lo) (hs:FHs) (u:Nat) (rec0:AV→AV→AV→Mem→Nat→O2) (t1 t3 t5:AV) (m:Mem) (fc:Nat):O2:=
 (sAdd t5 (I 1)).bind fun t28=>
  rec0 t1 t3 t28 m (fc+3)
noncomputable def x2b (call:x1lo) (hs:FHs) (u:Nat) (rec0:AV→AV→AV→Mem→Nat→O2) (t1 t3 t5 t6:AV) (m:Mem) (fc:Nat):O2:=
 (sNot t6).bind fun t79=>
  x1lr t79
  (xd call hs u t3 m (fc+2))
  (xq call hs u rec0 t1 t3 t5 m (fc+2))
noncomputable def xag (call:x1lo) (hs:FHs) (u:Nat) (rec0:AV→AV→AV→Mem→Nat→O2) (rec1:AV→AV→AV→AV→AV→Mem→Nat→O2) (t1 t3 t5 t6 t7:AV) (m:Mem) (fc:Nat):O2:=
 (sAdd t7 (I 1)).bind fun t35=>
  rec1 t1 t3 t5 t6 t35 m (fc+3)
noncomputable def xfc (call:x1lo) (hs:FHs) (u:Nat) (rec0:AV→AV→AV→Mem→Nat→O2) (rec1:AV→AV→AV→AV→AV→Mem→Nat→O2) (t1 t3 t5 t6 t7:AV) (m:Mem) (fc:Nat):O2:=
 (sFA 1 t1).bind fun t36=>
  (sLd false 1 t36 m).bind fun t37=>
  (sIx 4 t37 t7).bind fun t39=>
  (sLd true 4 t39 m).bind fun t40=>
  x1m5 xb (u,fc+5,8) m fun t8 m_1=>
  sSt 4 t8 t40 m_1 fun m_2=>
  (sFA 0 t8).bind fun t42=>
  (sLd false 1 t42 m_2).bind fun t43=>
  (sIx 1 t3 t43).bind fun t44=>
  (sLd false 1 t44 m_2).bind fun t45=>
  (sFA 1 t8).bind fun t47=>
  (sLd false 1 t47 m_2).bind fun t48=>
  (sIx 1 t3 t48).bind fun t49=>
  (sLd false 1 t49 m_2).bind fun t50=>
  (sMin t45 t50).bind fun t51=>
  (sFA 3 t8).bind fun t52=>
  (sLd false 1 t52 m_2).bind fun t53=>
  (sGt t53 (I 0)).bind fun t54=>
  (bif sW t54 true then some (t3,m_2) else some (U,m_2)).bind fun p56=>
  (bif sW t54 true then (sFA 0 t8).bind fun v=>some (v,p56.2) else some (U,p56.2)).bind fun p57=>
  (bif sW t54 true then (sLd false 1 p57.1 p57.2).bind fun v=>some (v,p57.2) else some (U,p57.2)).bind fun p58=>
  (bif sW t54 true then (sIx 1 p56.1 p58.1).bind fun v=>some (v,p58.2) else some (U,p58.2)).bind fun p59=>
  (bif sW t54 true then (sLd false 1 p59.1 p59.2).bind fun v=>some (v,p59.2) else some (U,p59.2)).bind fun p60=>
  (bif sW t54 true then some (t3,p60.2) else some (U,p60.2)).bind fun p61=>
  (bif sW t54 true then (sFA 1 t8).bind fun v=>some (v,p61.2) else some (U,p61.2)).bind fun p62=>
  (bif sW t54 true then (sLd false 1 p62.1 p62.2).bind fun v=>some (v,p62.2) else some (U,p62.2)).bind fun p63=>
  (bif sW t54 true then (sIx 1 p61.1 p63.1).bind fun v=>some (v,p63.2) else some (U,p63.2)).bind fun p64=>
  (bif sW t54 true then (sLd false 1 p64.1 p64.2).bind fun v=>some (v,p64.2) else some (U,p64.2)).bind fun p65=>
  (bif sW t54 true then (sNe p60.1 p65.1).bind fun v=>some (v,p65.2) else some (U,p65.2)).bind fun p66=>
  (x1lx t54 p66.1 (B false)).bind fun t67=>
  x1lr t67
  ((sFA 0 t8).bind fun t69=>
  (sLd false 1 t69 p66.2).bind fun t70=>
  (sFA 1 t8).bind fun t72=>
  (sLd false 1 t72 p66.2).bind fun t73=>
  (sIx 1 t3 t70).bind fun t76=>
  sSt 1 t76 t51 p66.2 fun m_3=>
  (sIx 1 t3 t73).bind fun t77=>
  sSt 1 t77 t51 m_3 fun m_4=>
  bif (x1ls (tR t72) (tS t76)&&true) then
  xag call hs u rec0 rec1 t1 t3 t5 (B true) t7 m_4 (fc+48) else none)
  (xag call hs u rec0 rec1 t1 t3 t5 t6 t7 p66.2 (fc+35))
noncomputable def xk6 (call:x1lo) (hs:FHs) (u:Nat) (rec0:AV→AV→AV→Mem→Nat→O2) (rec1:AV→AV→AV→AV→AV→Mem→Nat→O2) (t1 t3 t5 t6 t7:AV) (m:Mem) (fc:Nat):O2:=
 (sFA 1 t1).bind fun t30=>
  (sLd false 1 t30 m).bind fun t31=>
  (sLen Try.prog x6 t31).bind fun t32=>
  (sLt t7 t32).bind fun t33=>
  x1lr t33
  (xfc call hs u rec0 rec1 t1 t3 t5 t6 t7 m (fc+5))
  (x2b call hs u rec0 t1 t3 t5 t6 m (fc+5))
noncomputable def x5y (call:x1lo) (hs:FHs) (u:Nat) (rec0:AV→AV→AV→Mem→Nat→O2):Nat→AV→AV→AV→AV→AV→Mem→Nat→O2
 | 0=>fun _ _ _ _ _ _ _=>none
 | n+1=>fun t1 t3 t5 t6 t7 m fc=>xk6 call hs u rec0 (x5y call hs u rec0 n) t1 t3 t5 t6 t7 m fc
noncomputable def xfd (call:x1lo) (hs:FHs) (u:Nat) (rec0:AV→AV→AV→Mem→Nat→O2) (t1 t3 t5 t6:AV) (m:Mem) (fc:Nat):O2:=
 x5y call hs u rec0 NN t1 t3 t5 t6 (I 0) m (fc+1)
noncomputable def xah (call:x1lo) (hs:FHs) (u:Nat) (rec0:AV→AV→AV→Mem→Nat→O2) (t1 t3 t5:AV) (m:Mem) (fc:Nat):O2:=
 xfd call hs u rec0 t1 t3 t5 (B false) m (fc+1)
noncomputable def xk7 (call:x1lo) (hs:FHs) (u:Nat) (rec0:AV→AV→AV→Mem→Nat→O2) (t1 t3 t5:AV) (m:Mem) (fc:Nat):O2:=
 (sFA 0 t1).bind fun t24=>
  (sLd false 1 t24 m).bind fun t25=>
  (sLt t5 t25).bind fun t26=>
  x1lr t26
  (xah call hs u rec0 t1 t3 t5 m (fc+4))
  (xd call hs u t3 m (fc+4))
noncomputable def x5z (call:x1lo) (hs:FHs) (u:Nat):Nat→AV→AV→AV→Mem→Nat→O2
 | 0=>fun _ _ _ _ _=>none
 | n+1=>fun t1 t3 t5 m fc=>xk7 call hs u (x5z call hs u n) t1 t3 t5 m fc
noncomputable def x46 (call:x1lo) (hs:FHs) (u:Nat) (t1 t3:AV) (m:Mem) (fc:Nat):O2:=
 x5z call hs u NN t1 t3 (I 0) m (fc+1)
noncomputable def xk8 (call:x1lo) (hs:FHs) (u:Nat) (rec2:AV→AV→AV→Mem→Nat→O2) (t1 t3 t4:AV) (m:Mem) (fc:Nat):O2:=
 (sFA 0 t1).bind fun t14=>
  (sLd false 1 t14 m).bind fun t15=>
  (sLt t4 t15).bind fun t16=>
  x1lr t16
  ((sIx 1 t3 t4).bind fun t22=>
  sSt 1 t22 t4 m fun m_5=>
  (sAdd t4 (I 1)).bind fun t18=>
  rec2 t1 t3 t18 m_5 (fc+12))
  (x46 call hs u t1 t3 m (fc+4))
noncomputable def x60 (call:x1lo) (hs:FHs) (u:Nat):Nat→AV→AV→AV→Mem→Nat→O2
 | 0=>fun _ _ _ _ _=>none
 | n+1=>fun t1 t3 t4 m fc=>xk8 call hs u (x60 call hs u n) t1 t3 t4 m fc
noncomputable def xfe (call:x1lo) (hs:FHs) (u:Nat) (t1 t3:AV) (m:Mem) (fc:Nat):O2:=
 x60 call hs u NN t1 t3 (I 0) m (fc+1)
noncomputable def xk9 (call:x1lo) (hs:FHs) (u:Nat) (t0:AV) (m:Mem) (fc:Nat):O2:=
 sBox t0 (u,fc,1) m fun t1 m_6=>
  (sFA 0 t1).bind fun t10=>
  (sLd false 1 t10 m_6).bind fun t11=>
  x1mr x1mc 1 8 t11 t11 (u,fc+4,12) m_6 fun t12 m_7=>
  xfe call hs u t1 t12 m_7 (fc+6)
noncomputable def x4z (call:x1lo) (hs:FHs) (u:Nat) (m:Mem) (fc:Nat):O2:=
 some ((B true),m)
noncomputable def xka (call:x1lo) (hs:FHs) (u:Nat) (rec0:AV→AV→Mem→Nat→O2) (t1 t4:AV) (m:Mem) (fc:Nat):O2:=
 (sFA 4 t1).bind fun t44=>
  (sLd false 1 t44 m).bind fun t45=>
  (sLen Try.prog x4 t45).bind fun t46=>
  (sLt t4 t46).bind fun t47=>
  x1lr t47
  ((sFA 4 t1).bind fun t50=>
  (sLd false 1 t50 m).bind fun t51=>
  (sIx 1 t51 t4).bind fun t53=>
  (sLd false 1 t53 m).bind fun t54=>
  (sGt t54 (I 20)).bind fun t55=>
  x1lr t55
  (some ((B false),m))
  ((sAdd t4 (I 1)).bind fun t49=>
  rec0 t1 t49 m (fc+14)))
  (x4z call hs u m (fc+5))
noncomputable def x61 (call:x1lo) (hs:FHs) (u:Nat):Nat→AV→AV→Mem→Nat→O2
 | 0=>fun _ _ _ _=>none
 | n+1=>fun t1 t4 m fc=>xka call hs u (x61 call hs u n) t1 t4 m fc
noncomputable def x47 (call:x1lo) (hs:FHs) (u:Nat) (t1:AV) (m:Mem) (fc:Nat):O2:=
 x61 call hs u NN t1 (I 0) m (fc+1)
noncomputable def xkb (call:x1lo) (hs:FHs) (u:Nat) (rec1:AV→AV→Mem→Nat→O2) (t1 t3:AV) (m:Mem) (fc:Nat):O2:=
 (sFA 3 t1).bind fun t31=>
  (sLd false 1 t31 m).bind fun t32=>
  (sLen Try.prog x4 t32).bind fun t33=>
  (sLt t3 t33).bind fun t34=>
  x1lr t34
  ((sFA 3 t1).bind fun t37=>
  (sLd false 1 t37 m).bind fun t38=>
  (sIx 1 t38 t3).bind fun t40=>
  (sLd false 1 t40 m).bind fun t41=>
  (sGt t41 (I 20)).bind fun t42=>
  x1lr t42
  (some ((B false),m))
  ((sAdd t3 (I 1)).bind fun t36=>
  rec1 t1 t36 m (fc+14)))
  (x47 call hs u t1 m (fc+5))
noncomputable def x62 (call:x1lo) (hs:FHs) (u:Nat):Nat→AV→AV→Mem→Nat→O2
 | 0=>fun _ _ _ _=>none
 | n+1=>fun t1 t3 m fc=>xkb call hs u (x62 call hs u n) t1 t3 m fc
noncomputable def xff (call:x1lo) (hs:FHs) (u:Nat) (t1:AV) (m:Mem) (fc:Nat):O2:=
 x62 call hs u NN t1 (I 0) m (fc+1)
noncomputable def xkc (call:x1lo) (hs:FHs) (u:Nat) (t0:AV) (m:Mem) (fc:Nat):O2:=
 sBox t0 (u,fc,1) m fun t1 m_1=>
  (sFA 0 t1).bind fun t5=>
  (sFA 2 t5).bind fun t6=>
  (sLd false 1 t6 m_1).bind fun t7=>
  (sLen Try.prog x4 t7).bind fun t8=>
  (sGt t8 (I 164)).bind fun t9=>
  (bif sW t9 false then (sFA 3 t1).bind fun v=>some (v,m_1) else some (U,m_1)).bind fun p11=>
  (bif sW t9 false then (sLd false 1 p11.1 p11.2).bind fun v=>some (v,p11.2) else some (U,p11.2)).bind fun p12=>
  (bif sW t9 false then (sLen Try.prog x4 p12.1).bind fun v=>some (v,p12.2) else some (U,p12.2)).bind fun p13=>
  (bif sW t9 false then (sGt p13.1 (I 300)).bind fun v=>some (v,p13.2) else some (U,p13.2)).bind fun p14=>
  (x1lx t9 (B true) p14.1).bind fun t15=>
  (bif sW t15 false then (sFA 4 t1).bind fun v=>some (v,p14.2) else some (U,p14.2)).bind fun p17=>
  (bif sW t15 false then (sLd false 1 p17.1 p17.2).bind fun v=>some (v,p17.2) else some (U,p17.2)).bind fun p18=>
  (bif sW t15 false then (sLen Try.prog x4 p18.1).bind fun v=>some (v,p18.2) else some (U,p18.2)).bind fun p19=>
  (bif sW t15 false then (sGt p19.1 (I 300)).bind fun v=>some (v,p19.2) else some (U,p19.2)).bind fun p20=>
  (x1lx t15 (B true) p20.1).bind fun t21=>
  x1lr t21
  (some ((B false),p20.2))
  ((sLd true 5 t1 p20.2).bind fun t22=>
  (x1lq call x7i [t22] p20.2).bind fun p23=>
  (sNe p23.1 (I 0)).bind fun t24=>
  x1lr t24
  (some ((B true),p23.2))
  ((sFA 0 t1).bind fun t25=>
  (sFA 2 t25).bind fun t26=>
  (sLd false 1 t26 p23.2).bind fun t27=>
  (sLen Try.prog x4 t27).bind fun t28=>
  (sGt t28 (I 12)).bind fun t29=>
  x1lr t29
  (some ((B false),p23.2))
  (xff call hs u t1 p23.2 (fc+27))))
noncomputable def xkd (call:x1lo) (hs:FHs) (u:Nat) (t0:AV) (m:Mem) (fc:Nat):O2:=
 sBox t0 (u,fc,1) m fun t1 m_1=>
  x1m5 x8r (u,fc+1,2) m_1 fun t2 m_2=>
  (sFA 0 t1).bind fun t3=>
  (sLd true 3 t3 m_2).bind fun t4=>
  (x1lq call x5j [t4] m_2).bind fun p5=>
  (sFA 3 t1).bind fun t6=>
  (sLd false 1 t6 p5.2).bind fun t7=>
  (x1lq call xh [t7] p5.2).bind fun p8=>
  (sFA 4 t1).bind fun t9=>
  (sLd false 1 t9 p8.2).bind fun t10=>
  (x1lq call xh [t10] p8.2).bind fun p11=>
  (x1m4 x8r [(0,3,p5.1),(3,1,p8.1),(4,1,p11.1)]).bind fun t12=>
  sSt 5 t2 t12 p11.2 fun m_3=>
  bif (Nat.ble 1 (mkM 0 [t4])&&(Nat.ble 1 (mkM 0 [t7])&&true))&&(cAp (some m_2.next) (tR t6) (mkM 0 [t4])&&(cAp (some m_2.next) (tR t9) (mkM 0 [t4])&&(cAp (some m_2.next) (tR t9) (mkM 0 [t7])&&true))) then
  (sLdP true 5 t2 m_3).bind fun r0=>
  some (r0,m_3) else none
noncomputable def x50 (call:x1lo) (hs:FHs) (u:Nat) (m:Mem) (fc:Nat):O2:=
 some ((I 0),m)
noncomputable def xke (call:x1lo) (hs:FHs) (u:Nat) (rec0:AV→AV→Mem→Nat→O2) (t1 t7:AV) (m:Mem) (fc:Nat):O2:=
 (sFA 4 t1).bind fun t70=>
  (sLd false 1 t70 m).bind fun t71=>
  (sLen Try.prog x4 t71).bind fun t72=>
  (sLt t7 t72).bind fun t73=>
  x1lr t73
  ((sFA 4 t1).bind fun t76=>
  (sLd false 1 t76 m).bind fun t77=>
  (sIx 1 t77 t7).bind fun t79=>
  (sLd false 1 t79 m).bind fun t80=>
  (x1lq call x5 [t80,(I 0),(I 1000)] m).bind fun p81=>
  (sNot p81.1).bind fun t82=>
  x1lr t82
  (some ((I 2),p81.2))
  ((sAdd t7 (I 1)).bind fun t75=>
  rec0 t1 t75 p81.2 (fc+15)))
  (x50 call hs u m (fc+5))
noncomputable def x63 (call:x1lo) (hs:FHs) (u:Nat):Nat→AV→AV→Mem→Nat→O2
 | 0=>fun _ _ _ _=>none
 | n+1=>fun t1 t7 m fc=>xke call hs u (x63 call hs u n) t1 t7 m fc
noncomputable def x48 (call:x1lo) (hs:FHs) (u:Nat) (t1:AV) (m:Mem) (fc:Nat):O2:=
 x63 call hs u NN t1 (I 0) m (fc+1)
noncomputable def xkf (call:x1lo) (hs:FHs) (u:Nat) (rec1:AV→AV→Mem→Nat→O2) (t1 t6:AV) (m:Mem) (fc:Nat):O2:=
 (sFA 3 t1).bind fun t56=>
  (sLd false 1 t56 m).bind fun t57=>
  (sLen Try.prog x4 t57).bind fun t58=>
  (sLt t6 t58).bind fun t59=>
  x1lr t59
  ((sFA 3 t1).bind fun t62=>
  (sLd false 1 t62 m).bind fun t63=>
  (sIx 1 t63 t6).bind fun t65=>
  (sLd false 1 t65 m).bind fun t66=>
  (x1lq call x5 [t66,(I 0),(I 1000)] m).bind fun p67=>
  (sNot p67.1).bind fun t68=>
  x1lr t68
  (some ((I 2),p67.2))
  ((sAdd t6 (I 1)).bind fun t61=>
  rec1 t1 t61 p67.2 (fc+15)))
  (x48 call hs u t1 m (fc+5))
noncomputable def x64 (call:x1lo) (hs:FHs) (u:Nat):Nat→AV→AV→Mem→Nat→O2
 | 0=>fun _ _ _ _=>none
 | n+1=>fun t1 t6 m fc=>xkf call hs u (x64 call hs u n) t1 t6 m fc
noncomputable def xfg (call:x1lo) (hs:FHs) (u:Nat) (t1:AV) (m:Mem) (fc:Nat):O2:=
 x64 call hs u NN t1 (I 0) m (fc+1)
noncomputable def xkg (call:x1lo) (hs:FHs) (u:Nat) (t0:AV) (m:Mem) (fc:Nat):O2:=
 sBox t0 (u,fc,1) m fun t1 m_1=>
  (sFA 0 t1).bind fun t8=>
  (sLd true 3 t8 m_1).bind fun t9=>
  x1m5 x1p (u,fc+4,3) m_1 fun t3 m_2=>
  sSt 3 t3 t9 m_2 fun m_3=>
  (sFA 0 t3).bind fun t10=>
  (sLd false 1 t10 m_3).bind fun t11=>
  (sFA 1 t3).bind fun t12=>
  (sLd false 1 t12 m_3).bind fun t13=>
  (sFA 2 t3).bind fun t14=>
  (sLd false 1 t14 m_3).bind fun t15=>
  (sLen Try.prog x4 t15).bind fun t16=>
  (x1lq call x5m [t11,t13,t16] m_3).bind fun p17=>
  (sNe p17.1 (I 0)).bind fun t19=>
  x1lr t19
  (some (p17.1,p17.2))
  ((sFA 0 t3).bind fun t21=>
  (sLd false 1 t21 p17.2).bind fun t22=>
  (sFA 1 t3).bind fun t23=>
  (sLd false 1 t23 p17.2).bind fun t24=>
  (sMul t22 t24).bind fun t25=>
  (sGt t25 (I 144)).bind fun t26=>
  x1lr t26
  (some ((I 8),p17.2))
  ((sFA 2 t3).bind fun t27=>
  (sLd false 1 t27 p17.2).bind fun t28=>
  (x1lq call x5n [t28] p17.2).bind fun p29=>
  (sNe p29.1 (I 0)).bind fun t31=>
  x1lr t31
  (some (p29.1,p29.2))
  ((sFA 3 t1).bind fun t33=>
  (sLd false 1 t33 p29.2).bind fun t34=>
  (sLen Try.prog x4 t34).bind fun t35=>
  (sFA 0 t3).bind fun t36=>
  (sLd false 1 t36 p29.2).bind fun t37=>
  (sFA 1 t3).bind fun t38=>
  (sLd false 1 t38 p29.2).bind fun t39=>
  (sSub t39 (I 1)).bind fun t40=>
  (sMul t37 t40).bind fun t41=>
  (sNe t35 t41).bind fun t42=>
  (bif sW t42 false then (sFA 4 t1).bind fun v=>some (v,p29.2) else some (U,p29.2)).bind fun p44=>
  (bif sW t42 false then (sLd false 1 p44.1 p44.2).bind fun v=>some (v,p44.2) else some (U,p44.2)).bind fun p45=>
  (bif sW t42 false then (sLen Try.prog x4 p45.1).bind fun v=>some (v,p45.2) else some (U,p45.2)).bind fun p46=>
  (bif sW t42 false then (sFA 0 t3).bind fun v=>some (v,p46.2) else some (U,p46.2)).bind fun p47=>
  (bif sW t42 false then (sLd false 1 p47.1 p47.2).bind fun v=>some (v,p47.2) else some (U,p47.2)).bind fun p48=>
  (bif sW t42 false then (sSub p48.1 (I 1)).bind fun v=>some (v,p48.2) else some (U,p48.2)).bind fun p49=>
  (bif sW t42 false then (sFA 1 t3).bind fun v=>some (v,p49.2) else some (U,p49.2)).bind fun p50=>
  (bif sW t42 false then (sLd false 1 p50.1 p50.2).bind fun v=>some (v,p50.2) else some (U,p50.2)).bind fun p51=>
  (bif sW t42 false then (sMul p49.1 p51.1).bind fun v=>some (v,p51.2) else some (U,p51.2)).bind fun p52=>
  (bif sW t42 false then (sNe p46.1 p52.1).bind fun v=>some (v,p52.2) else some (U,p52.2)).bind fun p53=>
  (x1lx t42 (B true) p53.1).bind fun t54=>
  x1lr t54
  (some ((I 10),p53.2))
  (xfg call hs u t1 p53.2 (fc+51)))))
noncomputable def x51 (call:x1lo) (hs:FHs) (u:Nat) (m:Mem) (fc:Nat):O2:=
 some ((I 0),m)
noncomputable def xkh (call:x1lo) (hs:FHs) (u:Nat) (rec0:AV→AV→AV→Mem→Nat→O2) (t57 t58 t59:AV) (m:Mem) (fc:Nat):O2:=
 (sLt t59 t58).bind fun t60=>
  x1lr t60
  ((sIx 1 t57 t59).bind fun t61=>
  (sLd false 1 t61 m).bind fun t62=>
  (x1lq call x3u [t62] m).bind fun p64=>
  (sNot p64.1).bind fun t65=>
  x1lr t65
  (some ((I 2),p64.2))
  ((sAdd t59 (I 1)).bind fun t66=>
  rec0 t57 t58 t66 p64.2 (fc+9)))
  (x51 call hs u m (fc+1))
noncomputable def x65 (call:x1lo) (hs:FHs) (u:Nat):Nat→AV→AV→AV→Mem→Nat→O2
 | 0=>fun _ _ _ _ _=>none
 | n+1=>fun t57 t58 t59 m fc=>xkh call hs u (x65 call hs u n) t57 t58 t59 m fc
noncomputable def xfh (call:x1lo) (hs:FHs) (u:Nat) (t1:AV) (m:Mem) (fc:Nat):O2:=
 (sFA 3 t1).bind fun t52=>
  (sLd false 1 t52 m).bind fun t53=>
  (sFA 4 t1).bind fun t54=>
  (sLd false 1 t54 m).bind fun t55=>
  x1ma x16 [(0,1,t53),(1,1,t55)] 2 1 (u,fc+4,56) m fun t56 m_1=>
  (x1lq call x5r [t56] m_1).bind fun p57=>
  (sLen Try.prog x4 p57.1).bind fun t58=>
  x65 call hs u NN p57.1 t58 (I 0) p57.2 (fc+8)
noncomputable def xki (call:x1lo) (hs:FHs) (u:Nat) (t0:AV) (m:Mem) (fc:Nat):O2:=
 sBox t0 (u,fc,1) m fun t1 m_2=>
  (sFA 0 t1).bind fun t8=>
  (sLd true 3 t8 m_2).bind fun t9=>
  x1m5 x1p (u,fc+4,3) m_2 fun t3 m_3=>
  sSt 3 t3 t9 m_3 fun m_4=>
  (sFA 0 t3).bind fun t10=>
  (sLd false 1 t10 m_4).bind fun t11=>
  (sFA 1 t3).bind fun t12=>
  (sLd false 1 t12 m_4).bind fun t13=>
  (sFA 2 t3).bind fun t14=>
  (sLd false 1 t14 m_4).bind fun t15=>
  (sLen Try.prog x4 t15).bind fun t16=>
  (x1lq call x5o [t11,t13,t16] m_4).bind fun p17=>
  (sNe p17.1 (I 0)).bind fun t19=>
  x1lr t19
  (some (p17.1,p17.2))
  ((sFA 2 t3).bind fun t21=>
  (sLd false 1 t21 p17.2).bind fun t22=>
  (sLen Try.prog x4 t22).bind fun t23=>
  (sGt t23 (I 144)).bind fun t24=>
  x1lr t24
  (some ((I 8),p17.2))
  ((sLd true 3 t3 p17.2).bind fun t25=>
  (x1lq call x5p [t25,(AV.clo x5q [])] p17.2).bind fun p26=>
  (sNe p26.1 (I 0)).bind fun t28=>
  x1lr t28
  (some (p26.1,p26.2))
  ((sFA 3 t1).bind fun t30=>
  (sLd false 1 t30 p26.2).bind fun t31=>
  (sLen Try.prog x4 t31).bind fun t32=>
  (sFA 0 t3).bind fun t33=>
  (sLd false 1 t33 p26.2).bind fun t34=>
  (sFA 1 t3).bind fun t35=>
  (sLd false 1 t35 p26.2).bind fun t36=>
  (sSub t36 (I 1)).bind fun t37=>
  (sMul t34 t37).bind fun t38=>
  (sNe t32 t38).bind fun t39=>
  (bif sW t39 false then (sFA 4 t1).bind fun v=>some (v,p26.2) else some (U,p26.2)).bind fun p41=>
  (bif sW t39 false then (sLd false 1 p41.1 p41.2).bind fun v=>some (v,p41.2) else some (U,p41.2)).bind fun p42=>
  (bif sW t39 false then (sLen Try.prog x4 p42.1).bind fun v=>some (v,p42.2) else some (U,p42.2)).bind fun p43=>
  (bif sW t39 false then (sFA 0 t3).bind fun v=>some (v,p43.2) else some (U,p43.2)).bind fun p44=>
  (bif sW t39 false then (sLd false 1 p44.1 p44.2).bind fun v=>some (v,p44.2) else some (U,p44.2)).bind fun p45=>
  (bif sW t39 false then (sSub p45.1 (I 1)).bind fun v=>some (v,p45.2) else some (U,p45.2)).bind fun p46=>
  (bif sW t39 false then (sFA 1 t3).bind fun v=>some (v,p46.2) else some (U,p46.2)).bind fun p47=>
  (bif sW t39 false then (sLd false 1 p47.1 p47.2).bind fun v=>some (v,p47.2) else some (U,p47.2)).bind fun p48=>
  (bif sW t39 false then (sMul p46.1 p48.1).bind fun v=>some (v,p48.2) else some (U,p48.2)).bind fun p49=>
  (bif sW t39 false then (sNe p43.1 p49.1).bind fun v=>some (v,p49.2) else some (U,p49.2)).bind fun p50=>
  (x1lx t39 (B true) p50.1).bind fun t51=>
  x1lr t51
  (some ((I 10),p50.2))
  (xfh call hs u t1 p50.2 (fc+48)))))
noncomputable def x52 (call:x1lo) (hs:FHs) (u:Nat) (m:Mem) (fc:Nat):O2:=
 some ((B true),m)
noncomputable def xkj (call:x1lo) (hs:FHs) (u:Nat) (rec0:AV→AV→AV→Mem→Nat→O2) (t2 t3 t5:AV) (m:Mem) (fc:Nat):O2:=
 (sFA 1 t2).bind fun t21=>
  (sLd false 1 t21 m).bind fun t22=>
  (sLen Try.prog x6 t22).bind fun t23=>
  (sLt t5 t23).bind fun t24=>
  x1lr t24
  ((sFA 1 t2).bind fun t27=>
  (sLd false 1 t27 m).bind fun t28=>
  (sIx 4 t28 t5).bind fun t30=>
  (sLd true 4 t30 m).bind fun t31=>
  (sFA 1 t3).bind fun t32=>
  (sLd false 1 t32 m).bind fun t33=>
  (sIx 4 t33 t5).bind fun t35=>
  (sLd true 4 t35 m).bind fun t36=>
  (sBin Try.prog .neq xai (.tmp 31) (.tmp 36) t31 t36).bind fun t37=>
  x1lr t37
  (some ((B false),m))
  ((sAdd t5 (I 1)).bind fun t26=>
  rec0 t2 t3 t26 m (fc+19)))
  (x52 call hs u m (fc+5))
noncomputable def x66 (call:x1lo) (hs:FHs) (u:Nat):Nat→AV→AV→AV→Mem→Nat→O2
 | 0=>fun _ _ _ _ _=>none
 | n+1=>fun t2 t3 t5 m fc=>xkj call hs u (x66 call hs u n) t2 t3 t5 m fc
noncomputable def xfi (call:x1lo) (hs:FHs) (u:Nat) (t2 t3:AV) (m:Mem) (fc:Nat):O2:=
 x66 call hs u NN t2 t3 (I 0) m (fc+1)
noncomputable def xkk (call:x1lo) (hs:FHs) (u:Nat) (t0 t1:AV) (m:Mem) (fc:Nat):O2:=
 sBox t0 (u,fc,2) m fun t2 m_1=>
  sBox t1 (u,fc+1,3) m_1 fun t3 m_2=>
  (sFA 0 t2).bind fun t6=>
  (sLd false 1 t6 m_2).bind fun t7=>
  (sFA 0 t3).bind fun t8=>
  (sLd false 1 t8 m_2).bind fun t9=>
  (sNe t7 t9).bind fun t10=>
  (bif sW t10 false then (sFA 1 t2).bind fun v=>some (v,m_2) else some (U,m_2)).bind fun p12=>
  (bif sW t10 false then (sLd false 1 p12.1 p12.2).bind fun v=>some (v,p12.2) else some (U,p12.2)).bind fun p13=>
  (bif sW t10 false then (sLen Try.prog x6 p13.1).bind fun v=>some (v,p13.2) else some (U,p13.2)).bind fun p14=>
  (bif sW t10 false then (sFA 1 t3).bind fun v=>some (v,p14.2) else some (U,p14.2)).bind fun p15=>
  (bif sW t10 false then (sLd false 1 p15.1 p15.2).bind fun v=>some (v,p15.2) else some (U,p15.2)).bind fun p16=>
  (bif sW t10 false then (sLen Try.prog x6 p16.1).bind fun v=>some (v,p16.2) else some (U,p16.2)).bind fun p17=>
  (bif sW t10 false then (sNe p14.1 p17.1).bind fun v=>some (v,p17.2) else some (U,p17.2)).bind fun p18=>
  (x1lx t10 (B true) p18.1).bind fun t19=>
  x1lr t19
  (some ((B false),p18.2))
  (xfi call hs u t2 t3 p18.2 (fc+17))
noncomputable def x8s (call:x1lo) (hs:FHs) (u:Nat) (t0 t1 t2:AV) (m:Mem) (fc:Nat):O2:=
 sBox t0 (u,fc,3) m fun t3 m_1=>
  x1m5 xe (u,fc+1,6) m_1 fun t6 m_2=>
  (sLd true 2 t3 m_2).bind fun t13=>
  (x1lq call x1n [t13] m_2).bind fun p14=>
  (sExt p14.1 0).bind fun t15=>
  (sExt p14.1 1).bind fun t16=>
  x1m5 x1e (u,fc+8,8) p14.2 fun t8 m_3=>
  sSt 2 t8 t15 m_3 fun m_4=>
  (sNe t16 (I 0)).bind fun t19=>
  x1lr t19
  ((x1m4 xe []).bind fun t20=>
  sSt 2 t6 t20 m_4 fun m_5=>
  (sLdP true 2 t6 m_5).bind fun r0=>
  some (AV.tup [r0,t16],m_5))
  ((sFA 0 t3).bind fun t24=>
  (sLd false 1 t24 m_4).bind fun t25=>
  (sSub t25 (I 1)).bind fun t26=>
  (x1lq call xg [t1,(I 0),t26] m_4).bind fun p27=>
  (sNot p27.1).bind fun t28=>
  (bif sW t28 false then some (t2,p27.2) else some (U,p27.2)).bind fun p30=>
  (bif sW t28 false then (sFA 0 t3).bind fun v=>some (v,p30.2) else some (U,p30.2)).bind fun p31=>
  (bif sW t28 false then (sLd false 1 p31.1 p31.2).bind fun v=>some (v,p31.2) else some (U,p31.2)).bind fun p32=>
  (bif sW t28 false then (sSub p32.1 (I 1)).bind fun v=>some (v,p32.2) else some (U,p32.2)).bind fun p33=>
  (bif sW t28 false then (x1lq call xg [p30.1,(I 0),p33.1] p33.2).bind fun p=>some (p.1,p.2) else some (U,p33.2)).bind fun p34=>
  (bif sW t28 false then (sNot p34.1).bind fun v=>some (v,p34.2) else some (U,p34.2)).bind fun p35=>
  (x1lx t28 (B true) p35.1).bind fun t36=>
  x1lr t36
  ((x1m4 xe []).bind fun t37=>
  sSt 2 t6 t37 p35.2 fun m_6=>
  (sLdP true 2 t6 m_6).bind fun r0=>
  some (AV.tup [r0,(I 6)],m_6))
  ((sLd true 2 t8 p35.2).bind fun t38=>
  (x1lq call x3v [t38] p35.2).bind fun p39=>
  (sIx 1 p39.1 t1).bind fun t42=>
  (sLd false 1 t42 p39.2).bind fun t43=>
  (sIx 1 p39.1 t2).bind fun t46=>
  (sLd false 1 t46 p39.2).bind fun t47=>
  (sNe t43 t47).bind fun t48=>
  x1lr t48
  ((x1m4 xe []).bind fun t49=>
  sSt 2 t6 t49 p39.2 fun m_7=>
  (sLdP true 2 t6 m_7).bind fun r0=>
  some (AV.tup [r0,(I 25)],m_7))
  ((sLd true 2 t8 p39.2).bind fun t50=>
  (x1o5 call x11 [t50] p39.2).bind fun p51=>
  (x1pa call x12 [p51.1,t2] p51.2).bind fun p54=>
  (sIx 1 p54.1 t1).bind fun t56=>
  (sLd false 1 t56 p54.2).bind fun t57=>
  (sNeg t57).bind fun t58=>
  (x1pa call x12 [p51.1,t1] p54.2).bind fun p61=>
  (sIx 1 p61.1 t2).bind fun t63=>
  (sLd false 1 t63 p61.2).bind fun t64=>
  (x1m4 xe [(0,1,t58),(1,1,t64)]).bind fun t65=>
  sSt 2 t6 t65 p61.2 fun m_8=>
  bif (Nat.ble 1 (mkM 4 [p51.1,t2])&&(Nat.ble 1 (mkM 4 [p51.1,t1])&&true))&&(cAp none (tR t56) (mkM 4 [p51.1,t1])&&true) then
  (sLdP true 2 t6 m_8).bind fun r0=>
  some (AV.tup [r0,(I 0)],m_8) else none)))
noncomputable def xaj (call:x1lo) (hs:FHs) (u:Nat) (t0:AV) (m:Mem) (fc:Nat):O2:=
 sBox t0 (u,fc,1) m fun t1 m_1=>
  (sLd true 2 t1 m_1).bind fun t7=>
  (x1lq call x1n [t7] m_1).bind fun p8=>
  (sExt p8.1 0).bind fun t9=>
  (sExt p8.1 1).bind fun t10=>
  x1m5 x1e (u,fc+8,4) p8.2 fun t4 m_2=>
  sSt 2 t4 t9 m_2 fun m_3=>
  (sNe t10 (I 0)).bind fun t12=>
  x1lr t12
  (some (AV.tup [nilS,t10],m_3))
  ((sLd true 2 t4 m_3).bind fun t14=>
  (x1lq call x2w [t14] m_3).bind fun p15=>
  some (AV.tup [p15.1,(I 0)],p15.2))
noncomputable def x49 (call:x1lo) (hs:FHs) (u:Nat) (m:Mem) (fc:Nat):O2:=
 some ((B true),m)
noncomputable def xak (call:x1lo) (hs:FHs) (u:Nat) (rec0:AV→AV→AV→Mem→Nat→O2) (t0 t1 t5:AV) (m:Mem) (fc:Nat):O2:=
 (sLen Try.prog x4 t0).bind fun t13=>
  (sLt t5 t13).bind fun t14=>
  x1lr t14
  ((sIx 1 t0 t5).bind fun t19=>
  (sLd false 1 t19 m).bind fun t20=>
  (sIx 1 t1 t5).bind fun t23=>
  (sLd false 1 t23 m).bind fun t24=>
  (sNe t20 t24).bind fun t25=>
  x1lr t25
  (some ((B false),m))
  ((sAdd t5 (I 1)).bind fun t16=>
  rec0 t0 t1 t16 m (fc+16)))
  (x49 call hs u m (fc+4))
noncomputable def x2z (call:x1lo) (hs:FHs) (u:Nat):Nat→AV→AV→AV→Mem→Nat→O2
 | 0=>fun _ _ _ _ _=>none
 | n+1=>fun t0 t1 t5 m fc=>xak call hs u (x2z call hs u n) t0 t1 t5 m fc
noncomputable def xal (call:x1lo) (hs:FHs) (u:Nat) (t0 t1:AV) (m:Mem) (fc:Nat):O2:=
 x2z call hs u NN t0 t1 (I 0) m (fc+1)
noncomputable def xfj (call:x1lo) (hs:FHs) (u:Nat) (t0 t1:AV) (m:Mem) (fc:Nat):O2:=
 (sLen Try.prog x4 t0).bind fun t7=>
  (sLen Try.prog x4 t1).bind fun t9=>
  (sNe t7 t9).bind fun t10=>
  x1lr t10
  (some ((B false),m))
  (xal call hs u t0 t1 m (fc+6))
noncomputable def x30 (call:x1lo) (hs:FHs) (u:Nat) (t4:AV) (m:Mem) (fc:Nat):O2:=
 (x1lq call x2v [t4] m).bind fun p68=>
  some (p68.1,p68.2)
noncomputable def xam (call:x1lo) (hs:FHs) (u:Nat) (rec0:AV→AV→AV→Mem→Nat→O2) (t1 t4 t10:AV) (m:Mem) (fc:Nat):O2:=
 (sFA 0 t1).bind fun t52=>
  (sLd false 1 t52 m).bind fun t53=>
  (sLt t10 t53).bind fun t54=>
  x1lr t54
  ((sIx 1 t4 t10).bind fun t62=>
  (sLd false 1 t62 m).bind fun t63=>
  (sIx 1 t4 t63).bind fun t64=>
  (sLd false 1 t64 m).bind fun t65=>
  (sIx 1 t4 t10).bind fun t66=>
  sSt 1 t66 t65 m fun m_1=>
  (sAdd t10 (I 1)).bind fun t56=>
  rec0 t1 t4 t56 m_1 (fc+18))
  (x30 call hs u t4 m (fc+4))
noncomputable def x31 (call:x1lo) (hs:FHs) (u:Nat):Nat→AV→AV→AV→Mem→Nat→O2
 | 0=>fun _ _ _ _ _=>none
 | n+1=>fun t1 t4 t10 m fc=>xam call hs u (x31 call hs u n) t1 t4 t10 m fc
noncomputable def x8 (call:x1lo) (hs:FHs) (u:Nat) (t1 t4:AV) (m:Mem) (fc:Nat):O2:=
 x31 call hs u NN t1 t4 (I 0) m (fc+1)
noncomputable def xm (call:x1lo) (hs:FHs) (u:Nat) (rec1:AV→AV→AV→AV→Mem→Nat→O2) (t1 t3 t4 t5:AV) (m:Mem) (fc:Nat):O2:=
 (sAdd t5 (I 1)).bind fun t18=>
  rec1 t1 t3 t4 t18 m (fc+3)
noncomputable def x1f (call:x1lo) (hs:FHs) (u:Nat) (rec1:AV→AV→AV→AV→Mem→Nat→O2) (t1 t3 t4 t5 t6:AV) (m:Mem) (fc:Nat):O2:=
 x1ma x1mc [(0,1,t6)] 1 1 (u,fc+2,49) m fun t49 m_2=>
  sApp 1 8 (u,fc+3,50) (elems m_2.get 1 t49) t4 m_2 fun t50 m_3=>
  xm call hs u rec1 t1 t3 t50 t5 m_3 (fc+5)
noncomputable def x53 (call:x1lo) (hs:FHs) (u:Nat) (rec1:AV→AV→AV→AV→Mem→Nat→O2) (rec2:AV→AV→AV→AV→AV→AV→Mem→Nat→O2) (t1 t3 t4 t5 t6 t7:AV) (m:Mem) (fc:Nat):O2:=
 (sAdd t7 (I 1)).bind fun t29=>
  rec2 t1 t3 t4 t5 t6 t29 m (fc+3)
noncomputable def x67 (call:x1lo) (hs:FHs) (u:Nat) (rec1:AV→AV→AV→AV→Mem→Nat→O2) (rec2:AV→AV→AV→AV→AV→AV→Mem→Nat→O2) (t1 t3 t4 t5 t6 t7:AV) (m:Mem) (fc:Nat):O2:=
 (sLd true 2 t1 m).bind fun t31=>
  (x1lq call x3q [t31,t3,t7,t5] m).bind fun p35=>
  (sExt p35.1 0).bind fun t36=>
  (sExt p35.1 1).bind fun t37=>
  x1m5 xe (u,fc+8,8) p35.2 fun t8 m_4=>
  sSt 2 t8 t36 m_4 fun m_5=>
  (bif sW t37 true then (sFA 0 t8).bind fun v=>some (v,m_5) else some (U,m_5)).bind fun p40=>
  (bif sW t37 true then (sLd false 1 p40.1 p40.2).bind fun v=>some (v,p40.2) else some (U,p40.2)).bind fun p41=>
  (bif sW t37 true then (sFA 1 t8).bind fun v=>some (v,p41.2) else some (U,p41.2)).bind fun p42=>
  (bif sW t37 true then (sLd false 1 p42.1 p42.2).bind fun v=>some (v,p42.2) else some (U,p42.2)).bind fun p43=>
  (bif sW t37 true then (sEq p41.1 p43.1).bind fun v=>some (v,p43.2) else some (U,p43.2)).bind fun p44=>
  (x1lx t37 p44.1 (B false)).bind fun t45=>
  x1lr t45
  (x53 call hs u rec1 rec2 t1 t3 t4 t5 t7 t7 p44.2 (fc+21))
  (x53 call hs u rec1 rec2 t1 t3 t4 t5 t6 t7 p44.2 (fc+19))
noncomputable def x4a (call:x1lo) (hs:FHs) (u:Nat) (rec1:AV→AV→AV→AV→Mem→Nat→O2) (rec2:AV→AV→AV→AV→AV→AV→Mem→Nat→O2) (t1 t3 t4 t5 t6 t7:AV) (m:Mem) (fc:Nat):O2:=
 (sLt t7 t5).bind fun t22=>
  (bif sW t22 true then some (t6,m) else some (U,m)).bind fun p24=>
  (bif sW t22 true then some (t5,p24.2) else some (U,p24.2)).bind fun p25=>
  (bif sW t22 true then (sEq p24.1 p25.1).bind fun v=>some (v,p25.2) else some (U,p25.2)).bind fun p26=>
  (x1lx t22 p26.1 (B false)).bind fun t27=>
  x1lr t27
  (x67 call hs u rec1 rec2 t1 t3 t4 t5 t6 t7 p26.2 (fc+8))
  (x1f call hs u rec1 t1 t3 t4 t5 t6 p26.2 (fc+8))
noncomputable def x2c (call:x1lo) (hs:FHs) (u:Nat) (rec1:AV→AV→AV→AV→Mem→Nat→O2):Nat→AV→AV→AV→AV→AV→AV→Mem→Nat→O2
 | 0=>fun _ _ _ _ _ _ _ _=>none
 | n+1=>fun t1 t3 t4 t5 t6 t7 m fc=>x4a call hs u rec1 (x2c call hs u rec1 n) t1 t3 t4 t5 t6 t7 m fc
noncomputable def xan (call:x1lo) (hs:FHs) (u:Nat) (rec1:AV→AV→AV→AV→Mem→Nat→O2) (t1 t3 t4 t5 t6:AV) (m:Mem) (fc:Nat):O2:=
 x2c call hs u rec1 NN t1 t3 t4 t5 t6 (I 0) m (fc+1)
noncomputable def x8t (call:x1lo) (hs:FHs) (u:Nat) (rec1:AV→AV→AV→AV→Mem→Nat→O2) (t1 t3 t4 t5:AV) (m:Mem) (fc:Nat):O2:=
 xan call hs u rec1 t1 t3 t4 t5 t5 m (fc+2)
noncomputable def x8u (call:x1lo) (hs:FHs) (u:Nat) (rec1:AV→AV→AV→AV→Mem→Nat→O2) (t1 t3 t4 t5:AV) (m:Mem) (fc:Nat):O2:=
 (sFA 0 t1).bind fun t14=>
  (sLd false 1 t14 m).bind fun t15=>
  (sLt t5 t15).bind fun t16=>
  x1lr t16
  (x8t call hs u rec1 t1 t3 t4 t5 m (fc+4))
  (x8 call hs u t1 t4 m (fc+4))
noncomputable def x1q (call:x1lo) (hs:FHs) (u:Nat):Nat→AV→AV→AV→AV→Mem→Nat→O2
 | 0=>fun _ _ _ _ _ _=>none
 | n+1=>fun t1 t3 t4 t5 m fc=>x8u call hs u (x1q call hs u n) t1 t3 t4 t5 m fc
noncomputable def xao (call:x1lo) (hs:FHs) (u:Nat) (t1 t3 t4:AV) (m:Mem) (fc:Nat):O2:=
 x1q call hs u NN t1 t3 t4 (I 0) m (fc+1)
noncomputable def xfk (call:x1lo) (hs:FHs) (u:Nat) (t0:AV) (m:Mem) (fc:Nat):O2:=
 sBox t0 (u,fc,1) m fun t1 m_6=>
  (sLd true 2 t1 m_6).bind fun t11=>
  (x1lq call x28 [t11] m_6).bind fun p12=>
  xao call hs u t1 p12.1 nilS p12.2 (fc+6)
noncomputable def xfl (call:x1lo) (hs:FHs) (u:Nat) (t0 t1 t2:AV) (m:Mem) (fc:Nat):O2:=
 (sLe t1 t0).bind fun t9=>
  (bif sW t9 true then some (t0,m) else some (U,m)).bind fun p11=>
  (bif sW t9 true then some (t2,p11.2) else some (U,p11.2)).bind fun p12=>
  (bif sW t9 true then (sLe p11.1 p12.1).bind fun v=>some (v,p12.2) else some (U,p12.2)).bind fun p13=>
  (x1lx t9 p13.1 (B false)).bind fun t14=>
  some (t14,p13.2)
noncomputable def xfm (call:x1lo) (hs:FHs) (u:Nat) (t0 t1 t2 t3:AV) (m:Mem) (fc:Nat):O2:=
 sBox t0 (u,fc,4) m fun t4 m_1=>
  x1m5 xe (u,fc+1,8) m_1 fun t8 m_2=>
  (sLd true 2 t4 m_2).bind fun t12=>
  (x1lq call x3w [t12,t1,t2] m_2).bind fun p15=>
  (sIx 1 p15.1 t3).bind fun t17=>
  (sLd false 1 t17 p15.2).bind fun t18=>
  (sLd true 2 t4 p15.2).bind fun t19=>
  (x1lq call x3w [t19,t1,t3] p15.2).bind fun p22=>
  (sIx 1 p22.1 t2).bind fun t24=>
  (sLd false 1 t24 p22.2).bind fun t25=>
  bif (Nat.ble 1 (mkM 0 [t12,t1,t2])&&(Nat.ble 1 (mkM 0 [t19,t1,t3])&&true))&&(cAp (some m_2.next) (tR t4) (mkM 0 [t12,t1,t2])&&(cAp none (tR t17) (mkM 0 [t19,t1,t3])&&true)) then
  (sEq t18 (I 1000000000)).bind fun t27=>
  (bif sW t27 false then some (t25,p22.2) else some (U,p22.2)).bind fun p29=>
  (bif sW t27 false then (sEq p29.1 (I 1000000000)).bind fun v=>some (v,p29.2) else some (U,p29.2)).bind fun p30=>
  (x1lx t27 (B true) p30.1).bind fun t31=>
  x1lr t31
  ((x1m4 xe []).bind fun t32=>
  sSt 2 t8 t32 p30.2 fun m_3=>
  (sLdP true 2 t8 m_3).bind fun r0=>
  some (AV.tup [r0,(B false)],m_3))
  ((sNeg t25).bind fun t34=>
  (x1m4 xe [(0,1,t34),(1,1,t18)]).bind fun t36=>
  sSt 2 t8 t36 p30.2 fun m_4=>
  (sLdP true 2 t8 m_4).bind fun r0=>
  some (AV.tup [r0,(B true)],m_4)) else none
noncomputable def x4b (call:x1lo) (hs:FHs) (u:Nat) (rec0:AV→AV→Mem→Nat→O2) (t1 t3:AV) (m:Mem) (fc:Nat):O2:=
 (sLd true 2 t1 m).bind fun t11=>
  (x1lq call x3x [t11,t3] m).bind fun p13=>
  (sExt p13.1 0).bind fun t14=>
  (sExt p13.1 1).bind fun t15=>
  (sNot t15).bind fun t17=>
  x1lr t17
  (some (t3,p13.2))
  (rec0 t1 t14 p13.2 (fc+12))
noncomputable def x13 (call:x1lo) (hs:FHs) (u:Nat):Nat→AV→AV→Mem→Nat→O2
 | 0=>fun _ _ _ _=>none
 | n+1=>fun t1 t3 m fc=>x4b call hs u (x13 call hs u n) t1 t3 m fc
noncomputable def xfn (call:x1lo) (hs:FHs) (u:Nat) (t0:AV) (m:Mem) (fc:Nat):O2:=
 sBox t0 (u,fc,1) m fun t1 m_1=>
  (sFA 1 t1).bind fun t6=>
  (sLd false 1 t6 m_1).bind fun t7=>
  (sLen Try.prog x6 t7).bind fun t8=>
  x1mr x1mc 1 8 t8 t8 (u,fc+5,9) m_1 fun t9 m_2=>
  x13 call hs u NN t1 t9 m_2 (fc+7)
noncomputable def xkl (call:x1lo) (hs:FHs) (u:Nat) (t0 t1:AV) (m:Mem) (fc:Nat):O2:=
 sBox t0 (u,fc,2) m fun t2 m_1=>
  (sLd true 2 t2 m_1).bind fun t9=>
  (x1lq call x1n [t9] m_1).bind fun p10=>
  (sExt p10.1 0).bind fun t11=>
  (sExt p10.1 1).bind fun t12=>
  x1m5 x1e (u,fc+8,6) p10.2 fun t6 m_2=>
  sSt 2 t6 t11 m_2 fun m_3=>
  (sNe t12 (I 0)).bind fun t15=>
  x1lr t15
  (some (AV.tup [(I 0),t12],m_3))
  ((sLen Try.prog x4 t1).bind fun t19=>
  (sFA 0 t2).bind fun t20=>
  (sLd false 1 t20 m_3).bind fun t21=>
  (sNe t19 t21).bind fun t22=>
  x1lr t22
  (some (AV.tup [(I 0),(I 10)],m_3))
  ((x1lq call x4u [t1,(AV.clo x84 [])] m_3).bind fun p25=>
  x1lr p25.1
  (some (AV.tup [(I 0),(I 2)],p25.2))
  ((sLd true 2 t6 p25.2).bind fun t26=>
  (x1qm call x2a [t26,t1] p25.2).bind fun p28=>
  some (AV.tup [p28.1,(I 0)],p28.2))))
noncomputable def xfo (call:x1lo) (hs:FHs) (u:Nat) (t0:AV) (m:Mem) (fc:Nat):O2:=
 x1ma x1mc [] 0 1 (u,fc+1,3) m fun t3 m_1=>
  sApp 1 8 (u,fc+3,5) (elems m_1.get 1 t0) t3 m_1 fun t5 m_2=>
  some (t5,m_2)
noncomputable def xkm (call:x1lo) (hs:FHs) (u:Nat) (t0:AV) (m:Mem) (fc:Nat):O2:=
 sBox t0 (u,fc,1) m fun t1 m_1=>
  (sLd true 2 t1 m_1).bind fun t3=>
  (x1lq call x26 [t3] m_1).bind fun p4=>
  (bif sW p4.1 true then (sLd true 2 t1 p4.2).bind fun v=>some (v,p4.2) else some (U,p4.2)).bind fun p6=>
  (bif sW p4.1 true then (x1lq call x1m [p6.1] p6.2).bind fun p=>some (p.1,p.2) else some (U,p6.2)).bind fun p7=>
  (bif sW p4.1 true then (sEq p7.1 (I 0)).bind fun v=>some (v,p7.2) else some (U,p7.2)).bind fun p8=>
  (x1lx p4.1 p8.1 (B false)).bind fun t9=>
  some (t9,p8.2)
noncomputable def x2d (call:x1lo) (hs:FHs) (u:Nat) (t2 t7 t8 t9:AV) (m:Mem) (fc:Nat):O2:=
 (sLd true 3 t9 m).bind fun t61=>
  (sNil t8).bind fun t63=>
  (sFA 2 t63).bind fun t64=>
  (sLd false 1 t64 m).bind fun t65=>
  (sLd true 2 t7 m).bind fun t66=>
  (sNil t8).bind fun t68=>
  (sFA 3 t68).bind fun t69=>
  (sLd false 1 t69 m).bind fun t70=>
  (x1qm call x2a [t66,t70] m).bind fun p71=>
  sSt 3 t2 t61 p71.2 fun m_1=>
  bif (Nat.ble 1 (mkM 3 [t66,t70])&&true)&&(cAp none (tR t9) (mkM 3 [t66,t70])&&(cAp none (tR t64) (mkM 3 [t66,t70])&&(x1ls (tR t64) (tS t2)&&true))) then
  (sLdP true 3 t2 m_1).bind fun r0=>
  some (AV.tup [r0,t65,p71.1,(I 0)],m_1) else none
noncomputable def xap (call:x1lo) (hs:FHs) (u:Nat) (rec0:AV→AV→AV→AV→AV→AV→AV→Mem→Nat→O2) (t2 t7 t8 t9 t37 t38 t39:AV) (m:Mem) (fc:Nat):O2:=
 (sAdd t39 (I 1)).bind fun t60=>
  rec0 t2 t7 t8 t9 t37 t38 t60 m (fc+2)
noncomputable def xfp (call:x1lo) (hs:FHs) (u:Nat) (rec0:AV→AV→AV→AV→AV→AV→AV→Mem→Nat→O2) (t2 t7 t8 t9 t37 t38 t39:AV) (m:Mem) (fc:Nat):O2:=
 (sIx 1 t37 t39).bind fun t42=>
  (sLd false 1 t42 m).bind fun t43=>
  (sFA 2 t9).bind fun t44=>
  (sLd false 1 t44 m).bind fun t45=>
  (sIx 1 t45 t39).bind fun t47=>
  (sLd false 1 t47 m).bind fun t48=>
  (x1lq call x2r [t48] m).bind fun p49=>
  (sNot p49.1).bind fun t50=>
  x1lr t50
  ((sFA 2 t9).bind fun t51=>
  (sLd false 1 t51 p49.2).bind fun t52=>
  (sIx 1 t52 t39).bind fun t54=>
  (sLd false 1 t54 p49.2).bind fun t55=>
  (sMul t43 (I 4096)).bind fun t57=>
  (sAdd t55 t57).bind fun t58=>
  (sIx 1 t52 t39).bind fun t59=>
  sSt 1 t59 t58 p49.2 fun m_2=>
  xap call hs u rec0 t2 t7 t8 t9 t37 t38 t39 m_2 (fc+22))
  (xap call hs u rec0 t2 t7 t8 t9 t37 t38 t39 p49.2 (fc+12))
noncomputable def xkn (call:x1lo) (hs:FHs) (u:Nat) (rec0:AV→AV→AV→AV→AV→AV→AV→Mem→Nat→O2) (t2 t7 t8 t9 t37 t38 t39:AV) (m:Mem) (fc:Nat):O2:=
 (sLt t39 t38).bind fun t40=>
  x1lr t40
  (xfp call hs u rec0 t2 t7 t8 t9 t37 t38 t39 m (fc+1))
  (x2d call hs u t2 t7 t8 t9 m (fc+1))
noncomputable def x68 (call:x1lo) (hs:FHs) (u:Nat):Nat→AV→AV→AV→AV→AV→AV→AV→Mem→Nat→O2
 | 0=>fun _ _ _ _ _ _ _ _ _=>none
 | n+1=>fun t2 t7 t8 t9 t37 t38 t39 m fc=>xkn call hs u (x68 call hs u n) t2 t7 t8 t9 t37 t38 t39 m fc
noncomputable def xfq (call:x1lo) (hs:FHs) (u:Nat) (t2 t7 t8 t9:AV) (m:Mem) (fc:Nat):O2:=
 (sNil t8).bind fun t35=>
  (sFA 3 t35).bind fun t36=>
  (sLd false 1 t36 m).bind fun t37=>
  (sLen Try.prog x4 t37).bind fun t38=>
  x68 call hs u NN t2 t7 t8 t9 t37 t38 (I 0) m (fc+6)
noncomputable def xko (call:x1lo) (hs:FHs) (u:Nat) (t0:AV) (m:Mem) (fc:Nat):O2:=
 sBox t0 (u,fc,1) m fun t1 m_3=>
  x1m5 x1p (u,fc+1,2) m_3 fun t2 m_4=>
  (sLd true 5 t1 m_4).bind fun t12=>
  (x1lq call x5g [t12] m_4).bind fun p13=>
  (sNe p13.1 (I 0)).bind fun t15=>
  x1lr t15
  ((x1m4 x1p []).bind fun t16=>
  sSt 3 t2 t16 p13.2 fun m_5=>
  (sLdP true 3 t2 m_5).bind fun r0=>
  some (AV.tup [r0,nilS,(I 0),p13.1],m_5))
  ((sLd true 5 t1 p13.2).bind fun t18=>
  (x1lq call x3t [t18] p13.2).bind fun p19=>
  (x1m4 x1e [(0,2,p19.1)]).bind fun t20=>
  x1m5 x1e (u,fc+13,7) p19.2 fun t7 m_6=>
  sSt 2 t7 t20 m_6 fun m_7=>
  (sLd true 2 t7 m_7).bind fun t21=>
  (x1o5 call x11 [t21] m_7).bind fun p22=>
  (sFA 0 t1).bind fun t23=>
  (sFA 0 t23).bind fun t24=>
  (sLd false 1 t24 p22.2).bind fun t25=>
  (sFA 0 t1).bind fun t26=>
  (sFA 1 t26).bind fun t27=>
  (sLd false 1 t27 p22.2).bind fun t28=>
  (sFA 0 t1).bind fun t29=>
  (sFA 2 t29).bind fun t30=>
  (sLd false 1 t30 p22.2).bind fun t31=>
  (x1o5 call x85 [t31] p22.2).bind fun p32=>
  (x1m4 x1p [(0,1,t25),(1,1,t28),(2,1,p32.1)]).bind fun t33=>
  x1m5 x1p (u,fc+29,9) p32.2 fun t9 m_8=>
  sSt 3 t9 t33 m_8 fun m_9=>
  bif (Nat.ble 1 (mkM 1 [t31])&&true)&&(cAp none (tR t24) (mkM 1 [t31])&&(cAp none (tR t27) (mkM 1 [t31])&&(x1ls (tR t24) (some [],some [(u,fc+29,9)])&&(x1ls (tR t27) (some [],some [(u,fc+29,9)])&&(x1ls (tR t30) (some [],some [(u,fc+29,9)])&&(cAp (some p22.2.next) (some [],some [(u,fc+29,9)]) (mkM 1 [t31])&&true)))))) then
  xfq call hs u t2 t7 p22.1 t9 m_9 (fc+31) else none)
noncomputable def xkp (call:x1lo) (hs:FHs) (u:Nat) (t0 t1:AV) (m:Mem) (fc:Nat):O2:=
 sBox t0 (u,fc,2) m fun t2 m_1=>
  (sLd true 2 t2 m_1).bind fun t9=>
  (x1lq call x1n [t9] m_1).bind fun p10=>
  (sExt p10.1 0).bind fun t11=>
  (sExt p10.1 1).bind fun t12=>
  x1m5 x1e (u,fc+8,6) p10.2 fun t6 m_2=>
  sSt 2 t6 t11 m_2 fun m_3=>
  (sNe t12 (I 0)).bind fun t14=>
  x1lr t14
  (some (AV.tup [(I 0),t12],m_3))
  ((sLd true 2 t6 m_3).bind fun t16=>
  (x1lq call x86 [t16,t1] m_3).bind fun p18=>
  (sExt p18.1 0).bind fun t19=>
  (sExt p18.1 1).bind fun t20=>
  some (AV.tup [t19,t20],p18.2))
noncomputable def x14 (call:x1lo) (hs:FHs) (u:Nat) (t7:AV) (m:Mem) (fc:Nat):O2:=
 some (AV.tup [t7,(I 0)],m)
noncomputable def x1r (call:x1lo) (hs:FHs) (u:Nat) (rec0:AV→AV→AV→AV→AV→AV→Mem→Nat→O2) (t1 t2 t7 t21 t22 t23:AV) (m:Mem) (fc:Nat):O2:=
 (sAdd t23 (I 1)).bind fun t99=>
  rec0 t1 t2 t7 t21 t22 t99 m (fc+2)
noncomputable def xaq (call:x1lo) (hs:FHs) (u:Nat) (rec0:AV→AV→AV→AV→AV→AV→Mem→Nat→O2) (t1 t2 t7 t8 t10 t11 t12 t21 t22 t23:AV) (m:Mem) (fc:Nat):O2:=
 (sSub t8 (I 1)).bind fun t79=>
  (sIx 1 t7 t79).bind fun t80=>
  (sLd false 1 t80 m).bind fun t81=>
  (sFA 2 t2).bind fun t83=>
  (sLd false 1 t83 m).bind fun t84=>
  (sIx 1 t84 t11).bind fun t86=>
  (sLd false 1 t86 m).bind fun t87=>
  (sFA 2 t2).bind fun t88=>
  (sLd false 1 t88 m).bind fun t89=>
  (sIx 1 t89 t10).bind fun t91=>
  (sLd false 1 t91 m).bind fun t92=>
  (sSub t87 t92).bind fun t93=>
  (x1lq call x4q [t93] m).bind fun p94=>
  (sMul t12 p94.1).bind fun t95=>
  (sAdd t81 t95).bind fun t96=>
  x1ma x1mc [(0,1,t96)] 1 1 (u,fc+21,97) p94.2 fun t97 m_1=>
  sApp 1 8 (u,fc+22,98) (elems m_1.get 1 t97) t7 m_1 fun t98 m_2=>
  bif (Nat.ble 1 (mkM 0 [t93])&&true)&&(cAp none (tR t80) (mkM 0 [t93])&&true) then
  x1r call hs u rec0 t1 t2 t98 t21 t22 t23 m_2 (fc+24) else none
noncomputable def xfr (call:x1lo) (hs:FHs) (u:Nat) (rec0:AV→AV→AV→AV→AV→AV→Mem→Nat→O2) (t1 t2 t7 t8 t10 t11 t12 t21 t22 t23:AV) (m:Mem) (fc:Nat):O2:=
 (sLt t11 t10).bind fun t73=>
  x1lr t73
  (xaq call hs u rec0 t1 t2 t7 t8 t11 t10 (I (-1)) t21 t22 t23 m (fc+8))
  (xaq call hs u rec0 t1 t2 t7 t8 t10 t11 t12 t21 t22 t23 m (fc+3))
noncomputable def xar (call:x1lo) (hs:FHs) (u:Nat) (rec0:AV→AV→AV→AV→AV→AV→Mem→Nat→O2) (t1 t2 t7 t21 t22 t23:AV) (m:Mem) (fc:Nat):O2:=
 (sIx 1 t21 t23).bind fun t26=>
  (sLd false 1 t26 m).bind fun t27=>
  (sFA 2 t2).bind fun t30=>
  (sLd false 1 t30 m).bind fun t31=>
  (sLen Try.prog x4 t31).bind fun t32=>
  (sSub t32 (I 1)).bind fun t33=>
  (x1lq call xg [t27,(I 0),t33] m).bind fun p34=>
  (sNot p34.1).bind fun t35=>
  x1lr t35
  (some (AV.tup [nilS,(I 6)],p34.2))
  ((sFA 2 t2).bind fun t37=>
  (sLd false 1 t37 p34.2).bind fun t38=>
  (sIx 1 t38 t27).bind fun t40=>
  (sLd false 1 t40 p34.2).bind fun t41=>
  (x1lq call x2r [t41] p34.2).bind fun p42=>
  x1lr p42.1
  (some (AV.tup [nilS,(I 31)],p42.2))
  ((sEq t23 (I 0)).bind fun t45=>
  x1lr t45
  ((sFA 2 t2).bind fun t47=>
  (sLd false 1 t47 p42.2).bind fun t48=>
  (sIx 1 t48 t27).bind fun t50=>
  (sLd false 1 t50 p42.2).bind fun t51=>
  x1ma x1mc [(0,1,t51)] 1 1 (u,fc+29,52) p42.2 fun t52 m_3=>
  sApp 1 8 (u,fc+30,53) (elems m_3.get 1 t52) t7 m_3 fun t53 m_4=>
  x1r call hs u rec0 t1 t2 t53 t21 t22 t23 m_4 (fc+32))
  ((sFA 1 t2).bind fun t55=>
  (sLd false 1 t55 p42.2).bind fun t56=>
  (sSub t23 (I 1)).bind fun t59=>
  (sIx 1 t1 t59).bind fun t60=>
  (sLd false 1 t60 p42.2).bind fun t61=>
  (x1lq call x88 [t56,t61,t27] p42.2).bind fun p63=>
  (sNot p63.1).bind fun t64=>
  x1lr t64
  (some (AV.tup [nilS,(I 14)],p63.2))
  ((sSub t23 (I 1)).bind fun t67=>
  (sIx 1 t1 t67).bind fun t68=>
  (sLd false 1 t68 p63.2).bind fun t69=>
  xfr call hs u rec0 t1 t2 t7 t23 t69 t27 (I 1) t21 t22 t23 p63.2 (fc+43)))))
noncomputable def xkq (call:x1lo) (hs:FHs) (u:Nat) (rec0:AV→AV→AV→AV→AV→AV→Mem→Nat→O2) (t1 t2 t7 t21 t22 t23:AV) (m:Mem) (fc:Nat):O2:=
 (sLt t23 t22).bind fun t24=>
  x1lr t24
  (xar call hs u rec0 t1 t2 t7 t21 t22 t23 m (fc+1))
  (x14 call hs u t7 m (fc+1))
noncomputable def x69 (call:x1lo) (hs:FHs) (u:Nat):Nat→AV→AV→AV→AV→AV→AV→Mem→Nat→O2
 | 0=>fun _ _ _ _ _ _ _ _=>none
 | n+1=>fun t1 t2 t7 t21 t22 t23 m fc=>xkq call hs u (x69 call hs u n) t1 t2 t7 t21 t22 t23 m fc
noncomputable def xfs (call:x1lo) (hs:FHs) (u:Nat) (t1 t2 t7:AV) (m:Mem) (fc:Nat):O2:=
 (sLen Try.prog x4 t1).bind fun t22=>
  x69 call hs u NN t1 t2 t7 t1 t22 (I 0) m (fc+3)
noncomputable def xkr (call:x1lo) (hs:FHs) (u:Nat) (t0 t1:AV) (m:Mem) (fc:Nat):O2:=
 sBox t0 (u,fc,2) m fun t2 m_5=>
  (sLd true 3 t2 m_5).bind fun t13=>
  (x1lq call x87 [t13,(AV.clo x5q [])] m_5).bind fun p14=>
  (sNe p14.1 (I 0)).bind fun t16=>
  x1lr t16
  (some (AV.tup [nilS,p14.1],p14.2))
  ((sLen Try.prog x4 t1).bind fun t19=>
  (sGt t19 (I 200)).bind fun t20=>
  x1lr t20
  (some (AV.tup [nilS,(I 8)],p14.2))
  (xfs call hs u t1 t2 nilS p14.2 (fc+12)))
noncomputable def xks (call:x1lo) (hs:FHs) (u:Nat) (t0:AV) (m:Mem) (fc:Nat):O2:=
 sBox t0 (u,fc,1) m fun t1 m_1=>
  x1m5 x1p (u,fc+1,2) m_1 fun t2 m_2=>
  (sFA 0 t1).bind fun t3=>
  (sLd false 1 t3 m_2).bind fun t4=>
  (sFA 1 t1).bind fun t5=>
  (sLd false 1 t5 m_2).bind fun t6=>
  (sFA 2 t1).bind fun t7=>
  (sLd false 1 t7 m_2).bind fun t8=>
  (x1lq call xh [t8] m_2).bind fun p9=>
  (x1m4 x1p [(0,1,t4),(1,1,t6),(2,1,p9.1)]).bind fun t10=>
  sSt 3 t2 t10 p9.2 fun m_3=>
  bif (Nat.ble 1 (mkM 0 [t8])&&true)&&(cAp none (tR t3) (mkM 0 [t8])&&(cAp none (tR t5) (mkM 0 [t8])&&true)) then
  (sLdP true 3 t2 m_3).bind fun r0=>
  some (r0,m_3) else none
noncomputable def xkt (call:x1lo) (hs:FHs) (u:Nat) (t0:AV) (m:Mem) (fc:Nat):O2:=
 sBox t0 (u,fc,1) m fun t1 m_1=>
  (sFA 0 t1).bind fun t4=>
  (sLd false 1 t4 m_1).bind fun t5=>
  (sFA 1 t1).bind fun t6=>
  (sLd false 1 t6 m_1).bind fun t7=>
  (sFA 2 t1).bind fun t8=>
  (sLd false 1 t8 m_1).bind fun t9=>
  (sLen Try.prog x4 t9).bind fun t10=>
  (x1lq call x5m [t5,t7,t10] m_1).bind fun p11=>
  (sNe p11.1 (I 0)).bind fun t13=>
  x1lr t13
  (some (p11.1,p11.2))
  ((sFA 2 t1).bind fun t15=>
  (sLd false 1 t15 p11.2).bind fun t16=>
  (x1lq call x5n [t16] p11.2).bind fun p17=>
  some (p17.1,p17.2))
noncomputable def x2e (call:x1lo) (hs:FHs) (u:Nat) (t6:AV) (m:Mem) (fc:Nat):O2:=
 some (AV.tup [t6,(I 0)],m)
noncomputable def xas (call:x1lo) (hs:FHs) (u:Nat) (rec0:AV→AV→AV→AV→Mem→Nat→O2) (t1 t2 t6 t7:AV) (m:Mem) (fc:Nat):O2:=
 (sAdd t7 (I 1)).bind fun t17=>
  rec0 t1 t2 t6 t17 m (fc+3)
noncomputable def xft (call:x1lo) (hs:FHs) (u:Nat) (rec0:AV→AV→AV→AV→Mem→Nat→O2) (t1 t2 t6 t7:AV) (m:Mem) (fc:Nat):O2:=
 (sIx 1 t1 t7).bind fun t20=>
  (sLd false 1 t20 m).bind fun t21=>
  (sFA 2 t2).bind fun t22=>
  (sLd false 1 t22 m).bind fun t23=>
  (sLen Try.prog x4 t23).bind fun t24=>
  (sSub t24 (I 1)).bind fun t25=>
  (x1lq call x5 [t21,(I 0),t25] m).bind fun p26=>
  (sNot p26.1).bind fun t27=>
  x1lr t27
  (some (AV.tup [nilS,(I 6)],p26.2))
  ((sFA 2 t2).bind fun t28=>
  (sLd false 1 t28 p26.2).bind fun t29=>
  (sIx 1 t1 t7).bind fun t32=>
  (sLd false 1 t32 p26.2).bind fun t33=>
  (sIx 1 t29 t33).bind fun t34=>
  (sLd false 1 t34 p26.2).bind fun t35=>
  (sEq t35 (I 1000000000000)).bind fun t37=>
  x1lr t37
  (some (AV.tup [nilS,(I 31)],p26.2))
  ((sEq t7 (I 0)).bind fun t39=>
  x1lr t39
  (x1ma x1mc [(0,1,t35)] 1 1 (u,fc+25,42) p26.2 fun t42 m_1=>
  sApp 1 8 (u,fc+26,43) (elems m_1.get 1 t42) t6 m_1 fun t43 m_2=>
  xas call hs u rec0 t1 t2 t43 t7 m_2 (fc+28))
  ((sLd true 3 t2 p26.2).bind fun t44=>
  (sSub t7 (I 1)).bind fun t47=>
  (sIx 1 t1 t47).bind fun t48=>
  (sLd false 1 t48 p26.2).bind fun t49=>
  (sIx 1 t1 t7).bind fun t52=>
  (sLd false 1 t52 p26.2).bind fun t53=>
  (x1lq call x89 [t44,t49,t53] p26.2).bind fun p54=>
  (sNot p54.1).bind fun t55=>
  x1lr t55
  (some (AV.tup [nilS,(I 14)],p54.2))
  ((sSub t7 (I 1)).bind fun t59=>
  (sIx 1 t6 t59).bind fun t60=>
  (sLd false 1 t60 p54.2).bind fun t61=>
  (sLd true 3 t2 p54.2).bind fun t62=>
  (sSub t7 (I 1)).bind fun t65=>
  (sIx 1 t1 t65).bind fun t66=>
  (sLd false 1 t66 p54.2).bind fun t67=>
  (sIx 1 t1 t7).bind fun t70=>
  (sLd false 1 t70 p54.2).bind fun t71=>
  (x1lq call x5s [t62,t67,t71] p54.2).bind fun p72=>
  (sAdd t61 p72.1).bind fun t73=>
  x1ma x1mc [(0,1,t73)] 1 1 (u,fc+53,74) p72.2 fun t74 m_3=>
  sApp 1 8 (u,fc+54,75) (elems m_3.get 1 t74) t6 m_3 fun t75 m_4=>
  bif (Nat.ble 1 (mkM 0 [t62,t67,t71])&&true)&&(cAp none (tR t60) (mkM 0 [t62,t67,t71])&&true) then
  xas call hs u rec0 t1 t2 t75 t7 m_4 (fc+56) else none))))
noncomputable def xku (call:x1lo) (hs:FHs) (u:Nat) (rec0:AV→AV→AV→AV→Mem→Nat→O2) (t1 t2 t6 t7:AV) (m:Mem) (fc:Nat):O2:=
 (sLen Try.prog x4 t1).bind fun t14=>
  (sLt t7 t14).bind fun t15=>
  x1lr t15
  (xft call hs u rec0 t1 t2 t6 t7 m (fc+4))
  (x2e call hs u t6 m (fc+4))
noncomputable def x6a (call:x1lo) (hs:FHs) (u:Nat):Nat→AV→AV→AV→AV→Mem→Nat→O2
 | 0=>fun _ _ _ _ _ _=>none
 | n+1=>fun t1 t2 t6 t7 m fc=>xku call hs u (x6a call hs u n) t1 t2 t6 t7 m fc
noncomputable def xfu (call:x1lo) (hs:FHs) (u:Nat) (t1 t2 t6:AV) (m:Mem) (fc:Nat):O2:=
 x6a call hs u NN t1 t2 t6 (I 0) m (fc+1)
noncomputable def xkv (call:x1lo) (hs:FHs) (u:Nat) (t0 t1:AV) (m:Mem) (fc:Nat):O2:=
 sBox t0 (u,fc,2) m fun t2 m_5=>
  (sLen Try.prog x4 t1).bind fun t10=>
  (sGt t10 (I 200)).bind fun t11=>
  x1lr t11
  (some (AV.tup [nilS,(I 8)],m_5))
  (xfu call hs u t1 t2 nilS m_5 (fc+7))
noncomputable def x54 (call:x1lo) (hs:FHs) (u:Nat) (t5:AV) (m:Mem) (fc:Nat):O2:=
 some (t5,m)
noncomputable def xkw (call:x1lo) (hs:FHs) (u:Nat) (rec0:AV→AV→AV→AV→Mem→Nat→O2) (t1 t2 t5 t6:AV) (m:Mem) (fc:Nat):O2:=
 (sFA 1 t2).bind fun t8=>
  (sLd false 1 t8 m).bind fun t9=>
  (sLen Try.prog x6 t9).bind fun t10=>
  (sLt t6 t10).bind fun t11=>
  x1lr t11
  ((sFA 1 t2).bind fun t15=>
  (sLd false 1 t15 m).bind fun t16=>
  (sIx 4 t16 t6).bind fun t18=>
  (sFA 3 t18).bind fun t19=>
  (sLd false 1 t19 m).bind fun t20=>
  (sFA 1 t2).bind fun t21=>
  (sLd false 1 t21 m).bind fun t22=>
  (sIx 4 t22 t6).bind fun t24=>
  (sLd true 4 t24 m).bind fun t25=>
  (x1lq call x8c [t25,t1] m).bind fun p27=>
  (x1lq call x29 [p27.1] p27.2).bind fun p28=>
  (sMul t20 p28.1).bind fun t29=>
  (sAdd t5 t29).bind fun t30=>
  bif (Nat.ble 1 (mkM 0 [t25,t1])&&(Nat.ble 1 (mkM 0 [p27.1])&&true))&&(cAp none (tR t15) (mkM 0 [t25,t1])&&(cAp none (tR t19) (mkM 0 [t25,t1])&&(cAp none (tR t15) (mkM 0 [p27.1])&&(cAp none (tR t19) (mkM 0 [p27.1])&&true)))) then
  (sAdd t6 (I 1)).bind fun t13=>
  rec0 t1 t2 t30 t13 p28.2 (fc+26) else none)
  (x54 call hs u t5 m (fc+5))
noncomputable def x6b (call:x1lo) (hs:FHs) (u:Nat):Nat→AV→AV→AV→AV→Mem→Nat→O2
 | 0=>fun _ _ _ _ _ _=>none
 | n+1=>fun t1 t2 t5 t6 m fc=>xkw call hs u (x6b call hs u n) t1 t2 t5 t6 m fc
noncomputable def xfv (call:x1lo) (hs:FHs) (u:Nat) (t1 t2 t5:AV) (m:Mem) (fc:Nat):O2:=
 x6b call hs u NN t1 t2 t5 (I 0) m (fc+1)
noncomputable def xkx (call:x1lo) (hs:FHs) (u:Nat) (t0 t1:AV) (m:Mem) (fc:Nat):O2:=
 sBox t0 (u,fc,2) m fun t2 m_1=>
  xfv call hs u t1 t2 (I 0) m_1 (fc+3)
noncomputable def xky (call:x1lo) (hs:FHs) (u:Nat) (t0:AV) (m:Mem) (fc:Nat):O2:=
 sBox t0 (u,fc,1) m fun t1 m_1=>
  (sLd true 5 t1 m_1).bind fun t7=>
  (x1lq call x5g [t7] m_1).bind fun p8=>
  (sNe p8.1 (I 0)).bind fun t10=>
  x1lr t10
  (some (AV.tup [nilS,p8.1],p8.2))
  ((sLd true 5 t1 p8.2).bind fun t12=>
  (x1lq call x3t [t12] p8.2).bind fun p13=>
  (x1m4 x1e [(0,2,p13.1)]).bind fun t14=>
  x1m5 x1e (u,fc+11,5) p13.2 fun t5 m_2=>
  sSt 2 t5 t14 m_2 fun m_3=>
  (sLd true 2 t5 m_3).bind fun t15=>
  (x1lq call x2w [t15] m_3).bind fun p16=>
  x1m5 x16 (u,fc+15,6) p16.2 fun t6 m_4=>
  sSt 1 t6 p16.1 m_4 fun m_5=>
  (sLd true 2 t5 m_5).bind fun t17=>
  (call hs x8a [t17,(AV.clo x8d [t6])] m_5).bind fun p19=>
  some (AV.tup [p19.1,(I 0)],p19.2))
noncomputable def xkz (call:x1lo) (hs:FHs) (u:Nat) (t0:AV) (m:Mem) (fc:Nat):O2:=
 x1m5 x44 (u,fc,2) m fun t2 m_1=>
  (x1m4 xb [(0,1,(I 0)),(1,1,(I 1)),(2,1,(I 1)),(3,1,(I 5))]).bind fun t3=>
  (x1m4 xb [(0,1,(I 1)),(1,1,(I 2)),(3,1,(I 3))]).bind fun t4=>
  (x1m4 xb [(0,1,(I 2)),(1,1,(I 0)),(3,1,t0)]).bind fun t6=>
  x1ma xb [(0,4,t3),(4,4,t4),(8,4,t6)] 3 4 (u,fc+5,7) m_1 fun t7 m_2=>
  (x1m4 x44 [(0,1,(I 3)),(1,1,t7)]).bind fun t8=>
  sSt 2 t2 t8 m_2 fun m_3=>
  (sLdP true 2 t2 m_3).bind fun r0=>
  some (r0,m_3)
noncomputable def xat (call:x1lo) (hs:FHs) (u:Nat) (t2 t3:AV) (m:Mem) (fc:Nat):O2:=
 (sLd true 5 t3 m).bind fun t19=>
  sSt 5 t2 t19 m fun m_1=>
  (sLdP true 5 t2 m_1).bind fun r0=>
  some (r0,m_1)
noncomputable def xfw (call:x1lo) (hs:FHs) (u:Nat) (t0 t2 t3:AV) (m:Mem) (fc:Nat):O2:=
 (sGt t0 (I 0)).bind fun t10=>
  x1lr t10
  (x1ma x1mc [(0,1,t0),(1,1,t0)] 2 1 (u,fc+4,13) m fun t13 m_2=>
  x1ma x1mc [(0,1,t0),(1,1,t0)] 2 1 (u,fc+7,16) m_2 fun t16 m_3=>
  (sFA 3 t3).bind fun t17=>
  sSt 1 t17 t13 m_3 fun m_4=>
  (sFA 4 t3).bind fun t18=>
  sSt 1 t18 t16 m_4 fun m_5=>
  xat call hs u t2 t3 m_5 (fc+12))
  (xat call hs u t2 t3 m (fc+2))
noncomputable def xl0 (call:x1lo) (hs:FHs) (u:Nat) (t0:AV) (m:Mem) (fc:Nat):O2:=
 x1m5 x8r (u,fc,2) m fun t2 m_6=>
  x1ma x1mc [(0,1,(I 0)),(1,1,(I 1500)),(2,1,(I (-1500))),(3,1,(I (-1096)))] 4 1 (u,fc+1,4) m_6 fun t4 m_7=>
  (x1m4 x1p [(0,1,(I 2)),(1,1,(I 2)),(2,1,t4)]).bind fun t5=>
  x1ma x1mc [(0,1,(I 5)),(1,1,(I 4))] 2 1 (u,fc+3,6) m_7 fun t6 m_8=>
  x1ma x1mc [(0,1,(I 3)),(1,1,(I 2))] 2 1 (u,fc+4,7) m_8 fun t7 m_9=>
  (x1m4 x8r [(0,3,t5),(3,1,t6),(4,1,t7)]).bind fun t8=>
  x1m5 x8r (u,fc+6,3) m_9 fun t3 m_10=>
  sSt 5 t3 t8 m_10 fun m_11=>
  xfw call hs u t0 t2 t3 m_11 (fc+8)
noncomputable def xfx (call:x1lo) (hs:FHs) (u:Nat) (t0:AV) (m:Mem) (fc:Nat):O2:=
 (sNeg t0).bind fun t5=>
  (sMax t0 t5).bind fun t6=>
  some (t6,m)
noncomputable def xfy (call:x1lo) (hs:FHs) (u:Nat) (t0:AV) (m:Mem) (fc:Nat):O2:=
 sBox t0 (u,fc,1) m fun t1 m_1=>
  x1m5 x1e (u,fc+1,2) m_1 fun t2 m_2=>
  (sLd true 2 t1 m_2).bind fun t7=>
  (x1lq call x3y [t7] m_2).bind fun p8=>
  (sExt p8.1 0).bind fun t9=>
  (sExt p8.1 1).bind fun t10=>
  (sLd true 2 t1 p8.2).bind fun t11=>
  (x1m4 x1e [(0,2,t11)]).bind fun t12=>
  sSt 2 t2 t12 p8.2 fun m_3=>
  (sLdP true 2 t2 m_3).bind fun r0=>
  some (AV.tup [r0,t10],m_3)
noncomputable def xv (call:x1lo) (hs:FHs) (u:Nat) (t3:AV) (m:Mem) (fc:Nat):O2:=
 some (t3,m)
noncomputable def x1s (call:x1lo) (hs:FHs) (u:Nat) (rec0:AV→AV→AV→AV→AV→Mem→Nat→O2) (t3 t6 t26 t27 t28:AV) (m:Mem) (fc:Nat):O2:=
 (sAdd t28 (I 1)).bind fun t62=>
  rec0 t3 t6 t26 t27 t62 m (fc+2)
noncomputable def x4c (call:x1lo) (hs:FHs) (u:Nat) (rec0:AV→AV→AV→AV→AV→Mem→Nat→O2) (t3 t6 t7 t8 t26 t27 t28:AV) (m:Mem) (fc:Nat):O2:=
 (sNil t3).bind fun t51=>
  (sFA 3 t51).bind fun t52=>
  (sLd false 1 t52 m).bind fun t53=>
  (sIx 1 t53 t7).bind fun t55=>
  (sLd false 1 t55 m).bind fun t56=>
  (x1ql Try.prog x4d t6 t8 false m).bind fun t59=>
  (sSub t56 t59).bind fun t60=>
  (sIx 1 t53 t7).bind fun t61=>
  sSt 1 t61 t60 m fun m_1=>
  x1s call hs u rec0 t3 t6 t26 t27 t28 m_1 (fc+13)
noncomputable def xau (call:x1lo) (hs:FHs) (u:Nat) (rec0:AV→AV→AV→AV→AV→Mem→Nat→O2) (t3 t6 t7 t8 t26 t27 t28:AV) (m:Mem) (fc:Nat):O2:=
 (x1ql Try.prog x4d t6 t8 true m).bind fun t36=>
  (sExt t36 0).bind fun t37=>
  (sExt t36 1).bind fun t38=>
  (sNot t38).bind fun t40=>
  x1lr t40
  ((sNil t3).bind fun t44=>
  (sFA 3 t44).bind fun t45=>
  (sLd false 1 t45 m).bind fun t46=>
  (sIx 1 t46 t7).bind fun t48=>
  (sLd false 1 t48 m).bind fun t49=>
  x1s4 Try.prog x4d t6 t8 t49 m fun m_2=>
  x4c call hs u rec0 t3 t6 t7 t8 t26 t27 t28 m_2 (fc+20))
  (x4c call hs u rec0 t3 t6 t7 t8 t26 t27 t28 m (fc+10))
noncomputable def x8v (call:x1lo) (hs:FHs) (u:Nat) (rec0:AV→AV→AV→AV→AV→Mem→Nat→O2) (t3 t6 t26 t27 t28:AV) (m:Mem) (fc:Nat):O2:=
 (sIx 1 t26 t28).bind fun t31=>
  (sLd false 1 t31 m).bind fun t32=>
  xau call hs u rec0 t3 t6 t28 t32 t26 t27 t28 m (fc+5)
noncomputable def xav (call:x1lo) (hs:FHs) (u:Nat) (rec0:AV→AV→AV→AV→AV→Mem→Nat→O2) (t3 t6 t26 t27 t28:AV) (m:Mem) (fc:Nat):O2:=
 (sLt t28 t27).bind fun t29=>
  x1lr t29
  (x8v call hs u rec0 t3 t6 t26 t27 t28 m (fc+1))
  (xv call hs u t3 m (fc+1))
noncomputable def x17 (call:x1lo) (hs:FHs) (u:Nat):Nat→AV→AV→AV→AV→AV→Mem→Nat→O2
 | 0=>fun _ _ _ _ _ _ _=>none
 | n+1=>fun t3 t6 t26 t27 t28 m fc=>xav call hs u (x17 call hs u n) t3 t6 t26 t27 t28 m fc
noncomputable def xaw (call:x1lo) (hs:FHs) (u:Nat) (t3 t5 t6:AV) (m:Mem) (fc:Nat):O2:=
 (sLen Try.prog x4 t5).bind fun t27=>
  x17 call hs u NN t3 t6 t5 t27 (I 0) m (fc+3)
noncomputable def x32 (call:x1lo) (hs:FHs) (u:Nat) (t1 t3:AV) (m:Mem) (fc:Nat):O2:=
 (sLd true 2 t1 m).bind fun t23=>
  (x1lq call x3v [t23] m).bind fun p24=>
  sMkMap (u,fc+3,25) p24.2 fun t25 m_3=>
  xaw call hs u t3 p24.1 t25 m_3 (fc+5)
noncomputable def xfz (call:x1lo) (hs:FHs) (u:Nat) (rec1:AV→AV→Mem→Nat→O2) (t1 t3:AV) (m:Mem) (fc:Nat):O2:=
 (sNil t3).bind fun t14=>
  (sFA 4 t14).bind fun t15=>
  (sLd false 1 t15 m).bind fun t16=>
  (call hs x3o [t16,(AV.clo x25 [])] m).bind fun p17=>
  (sLt p17.1 (I 0)).bind fun t19=>
  x1lr t19
  (x32 call hs u t1 t3 p17.2 (fc+8))
  ((call hs x40 [t3,p17.1] p17.2).bind fun p22=>
  rec1 t1 t3 p22.2 (fc+11))
noncomputable def x1g (call:x1lo) (hs:FHs) (u:Nat):Nat→AV→AV→Mem→Nat→O2
 | 0=>fun _ _ _ _=>none
 | n+1=>fun t1 t3 m fc=>xfz call hs u (x1g call hs u n) t1 t3 m fc
noncomputable def xax (call:x1lo) (hs:FHs) (u:Nat) (t0:AV) (m:Mem) (fc:Nat):O2:=
 sBox t0 (u,fc,1) m fun t1 m_4=>
  (sLd true 2 t1 m_4).bind fun t11=>
  (x1o5 call x3z [t11] m_4).bind fun p12=>
  x1g call hs u NN t1 p12.1 p12.2 (fc+5)
noncomputable def x4e (call:x1lo) (hs:FHs) (u:Nat) (t5:AV) (m:Mem) (fc:Nat):O2:=
 some (t5,m)
noncomputable def xay (call:x1lo) (hs:FHs) (u:Nat) (rec0:AV→AV→AV→AV→AV→Mem→Nat→O2) (t1 t5 t10 t11 t12:AV) (m:Mem) (fc:Nat):O2:=
 (sLt t12 t11).bind fun t13=>
  x1lr t13
  ((sIx 4 t10 t12).bind fun t14=>
  (sLd true 4 t14 m).bind fun t15=>
  x1m5 xb (u,fc+3,7) m fun t7 m_1=>
  sSt 4 t7 t15 m_1 fun m_2=>
  (sFA 3 t7).bind fun t17=>
  (sLd false 1 t17 m_2).bind fun t18=>
  (sLd true 4 t7 m_2).bind fun t19=>
  (x1lq call x4r [t19,t1] m_2).bind fun p21=>
  (x1lq call x2s [p21.1] p21.2).bind fun p22=>
  (sMul t18 p22.1).bind fun t23=>
  (sAdd t5 t23).bind fun t24=>
  bif (Nat.ble 1 (mkM 0 [t19,t1])&&(Nat.ble 1 (mkM 0 [p21.1])&&true))&&(cAp none (tR t17) (mkM 0 [t19,t1])&&(cAp none (tR t17) (mkM 0 [p21.1])&&true)) then
  (sAdd t12 (I 1)).bind fun t25=>
  rec0 t1 t24 t10 t11 t25 p22.2 (fc+17) else none)
  (x4e call hs u t5 m (fc+1))
noncomputable def x33 (call:x1lo) (hs:FHs) (u:Nat):Nat→AV→AV→AV→AV→AV→Mem→Nat→O2
 | 0=>fun _ _ _ _ _ _ _=>none
 | n+1=>fun t1 t5 t10 t11 t12 m fc=>xay call hs u (x33 call hs u n) t1 t5 t10 t11 t12 m fc
noncomputable def xaz (call:x1lo) (hs:FHs) (u:Nat) (t1 t2 t5:AV) (m:Mem) (fc:Nat):O2:=
 (sFA 0 t2).bind fun t8=>
  (sFA 1 t8).bind fun t9=>
  (sLd false 1 t9 m).bind fun t10=>
  (sLen Try.prog x6 t10).bind fun t11=>
  x33 call hs u NN t1 t5 t10 t11 (I 0) m (fc+5)
noncomputable def xg0 (call:x1lo) (hs:FHs) (u:Nat) (t0 t1:AV) (m:Mem) (fc:Nat):O2:=
 sBox t0 (u,fc,2) m fun t2 m_3=>
  xaz call hs u t1 t2 (I 0) m_3 (fc+3)
noncomputable def x4f (call:x1lo) (hs:FHs) (u:Nat) (m:Mem) (fc:Nat):O2:=
 some (AV.tup [(I 0),(I 0)],m)
noncomputable def xb0 (call:x1lo) (hs:FHs) (u:Nat) (rec0:AV→AV→Mem→Nat→O2) (t1 t4:AV) (m:Mem) (fc:Nat):O2:=
 (sFA 1 t1).bind fun t15=>
  (sLd false 1 t15 m).bind fun t16=>
  (sLen Try.prog x6 t16).bind fun t17=>
  (sLt t4 t17).bind fun t18=>
  x1lr t18
  ((sFA 1 t1).bind fun t21=>
  (sLd false 1 t21 m).bind fun t22=>
  (sIx 4 t22 t4).bind fun t24=>
  (sLd true 4 t24 m).bind fun t25=>
  x1m5 xb (u,fc+10,5) m fun t5 m_1=>
  sSt 4 t5 t25 m_1 fun m_2=>
  (sFA 0 t5).bind fun t26=>
  (sLd false 1 t26 m_2).bind fun t27=>
  (sFA 0 t1).bind fun t28=>
  (sLd false 1 t28 m_2).bind fun t29=>
  (sSub t29 (I 1)).bind fun t30=>
  (x1lq call x5 [t27,(I 0),t30] m_2).bind fun p31=>
  (sNot p31.1).bind fun t32=>
  (bif sW t32 false then (sFA 1 t5).bind fun v=>some (v,p31.2) else some (U,p31.2)).bind fun p34=>
  (bif sW t32 false then (sLd false 1 p34.1 p34.2).bind fun v=>some (v,p34.2) else some (U,p34.2)).bind fun p35=>
  (bif sW t32 false then (sFA 0 t1).bind fun v=>some (v,p35.2) else some (U,p35.2)).bind fun p36=>
  (bif sW t32 false then (sLd false 1 p36.1 p36.2).bind fun v=>some (v,p36.2) else some (U,p36.2)).bind fun p37=>
  (bif sW t32 false then (sSub p37.1 (I 1)).bind fun v=>some (v,p37.2) else some (U,p37.2)).bind fun p38=>
  (bif sW t32 false then (x1lq call x5 [p35.1,(I 0),p38.1] p38.2).bind fun p=>some (p.1,p.2) else some (U,p38.2)).bind fun p39=>
  (bif sW t32 false then (sNot p39.1).bind fun v=>some (v,p39.2) else some (U,p39.2)).bind fun p40=>
  (x1lx t32 (B true) p40.1).bind fun t41=>
  x1lr t41
  (some (AV.tup [t4,(I 6)],p40.2))
  ((sFA 0 t5).bind fun t43=>
  (sLd false 1 t43 p40.2).bind fun t44=>
  (sFA 1 t5).bind fun t45=>
  (sLd false 1 t45 p40.2).bind fun t46=>
  (sEq t44 t46).bind fun t47=>
  x1lr t47
  (some (AV.tup [t4,(I 3)],p40.2))
  ((sFA 2 t5).bind fun t49=>
  (sLd false 1 t49 p40.2).bind fun t50=>
  (x1lq call x5 [t50,(I (-1000)),(I 1000)] p40.2).bind fun p51=>
  (sNot p51.1).bind fun t52=>
  (bif sW t52 false then (sFA 3 t5).bind fun v=>some (v,p51.2) else some (U,p51.2)).bind fun p54=>
  (bif sW t52 false then (sLd false 1 p54.1 p54.2).bind fun v=>some (v,p54.2) else some (U,p54.2)).bind fun p55=>
  (bif sW t52 false then (x1lq call x5 [p55.1,(I 0),(I 1000)] p55.2).bind fun p=>some (p.1,p.2) else some (U,p55.2)).bind fun p56=>
  (bif sW t52 false then (sNot p56.1).bind fun v=>some (v,p56.2) else some (U,p56.2)).bind fun p57=>
  (x1lx t52 (B true) p57.1).bind fun t58=>
  x1lr t58
  (some (AV.tup [t4,(I 2)],p57.2))
  ((sAdd t4 (I 1)).bind fun t20=>
  rec0 t1 t20 p57.2 (fc+46)))))
  (x4f call hs u m (fc+5))
noncomputable def x34 (call:x1lo) (hs:FHs) (u:Nat):Nat→AV→AV→Mem→Nat→O2
 | 0=>fun _ _ _ _=>none
 | n+1=>fun t1 t4 m fc=>xb0 call hs u (x34 call hs u n) t1 t4 m fc
noncomputable def xb1 (call:x1lo) (hs:FHs) (u:Nat) (t1:AV) (m:Mem) (fc:Nat):O2:=
 x34 call hs u NN t1 (I 0) m (fc+1)
noncomputable def xg1 (call:x1lo) (hs:FHs) (u:Nat) (t0:AV) (m:Mem) (fc:Nat):O2:=
 sBox t0 (u,fc,1) m fun t1 m_3=>
  (sFA 0 t1).bind fun t6=>
  (sLd false 1 t6 m_3).bind fun t7=>
  (x1lq call x5 [t7,(I 0),(I 200)] m_3).bind fun p8=>
  (sNot p8.1).bind fun t9=>
  x1lr t9
  (some (AV.tup [(I 0),(I 2)],p8.2))
  ((sFA 1 t1).bind fun t10=>
  (sLd false 1 t10 p8.2).bind fun t11=>
  (sLen Try.prog x6 t11).bind fun t12=>
  (sGt t12 (I 600)).bind fun t13=>
  x1lr t13
  (some (AV.tup [(I 0),(I 8)],p8.2))
  (xb1 call hs u t1 p8.2 (fc+11)))
noncomputable def x55 (call:x1lo) (hs:FHs) (u:Nat) (t5:AV) (m:Mem) (fc:Nat):O2:=
 some (t5,m)
noncomputable def xl1 (call:x1lo) (hs:FHs) (u:Nat) (rec0:AV→AV→AV→AV→Mem→Nat→O2) (t1 t2 t5 t6:AV) (m:Mem) (fc:Nat):O2:=
 (sLen Try.prog x4 t1).bind fun t9=>
  (sLt t6 t9).bind fun t10=>
  x1lr t10
  ((sIx 1 t1 t6).bind fun t16=>
  (sLd false 1 t16 m).bind fun t17=>
  (sFA 1 t2).bind fun t18=>
  (sLd false 1 t18 m).bind fun t19=>
  (sIx 4 t19 t6).bind fun t21=>
  (sFA 2 t21).bind fun t22=>
  (sLd false 1 t22 m).bind fun t23=>
  (sMul t17 t23).bind fun t24=>
  (sAdd t5 t24).bind fun t25=>
  (sAdd t6 (I 1)).bind fun t12=>
  rec0 t1 t2 t25 t12 m (fc+21))
  (x55 call hs u t5 m (fc+4))
noncomputable def x6c (call:x1lo) (hs:FHs) (u:Nat):Nat→AV→AV→AV→AV→Mem→Nat→O2
 | 0=>fun _ _ _ _ _ _=>none
 | n+1=>fun t1 t2 t5 t6 m fc=>xl1 call hs u (x6c call hs u n) t1 t2 t5 t6 m fc
noncomputable def xg2 (call:x1lo) (hs:FHs) (u:Nat) (t1 t2 t5:AV) (m:Mem) (fc:Nat):O2:=
 x6c call hs u NN t1 t2 t5 (I 0) m (fc+1)
noncomputable def xl2 (call:x1lo) (hs:FHs) (u:Nat) (t0 t1:AV) (m:Mem) (fc:Nat):O2:=
 sBox t0 (u,fc,2) m fun t2 m_1=>
  xg2 call hs u t1 t2 (I 0) m_1 (fc+3)
noncomputable def x1t (call:x1lo) (hs:FHs) (u:Nat) (t3:AV) (m:Mem) (fc:Nat):O2:=
 some (t3,m)
noncomputable def x6d (call:x1lo) (hs:FHs) (u:Nat) (rec0:AV→AV→AV→AV→Mem→Nat→O2) (t0 t3 t4 t5:AV) (m:Mem) (fc:Nat):O2:=
 (sAdd t5 (I 1)).bind fun t14=>
  rec0 t0 t3 t4 t14 m (fc+3)
noncomputable def x8w (call:x1lo) (hs:FHs) (u:Nat) (rec0:AV→AV→AV→AV→Mem→Nat→O2) (t0 t3 t4 t5:AV) (m:Mem) (fc:Nat):O2:=
 (sIx 1 t0 t5).bind fun t17=>
  (sLd false 1 t17 m).bind fun t18=>
  (sEq t18 t5).bind fun t20=>
  x1lr t20
  ((sAdd t4 (I 1)).bind fun t25=>
  (sIx 1 t3 t5).bind fun t26=>
  sSt 1 t26 t4 m fun m_1=>
  x6d call hs u rec0 t0 t3 t25 t5 m_1 (fc+14))
  ((sIx 1 t0 t5).bind fun t32=>
  (sLd false 1 t32 m).bind fun t33=>
  (sIx 1 t3 t33).bind fun t34=>
  (sLd false 1 t34 m).bind fun t35=>
  (sIx 1 t3 t5).bind fun t36=>
  sSt 1 t36 t35 m fun m_2=>
  x6d call hs u rec0 t0 t3 t4 t5 m_2 (fc+17))
noncomputable def x8x (call:x1lo) (hs:FHs) (u:Nat) (rec0:AV→AV→AV→AV→Mem→Nat→O2) (t0 t3 t4 t5:AV) (m:Mem) (fc:Nat):O2:=
 (sLen Try.prog x4 t0).bind fun t11=>
  (sLt t5 t11).bind fun t12=>
  x1lr t12
  (x8w call hs u rec0 t0 t3 t4 t5 m (fc+4))
  (x1t call hs u t3 m (fc+4))
noncomputable def x2f (call:x1lo) (hs:FHs) (u:Nat):Nat→AV→AV→AV→AV→Mem→Nat→O2
 | 0=>fun _ _ _ _ _ _=>none
 | n+1=>fun t0 t3 t4 t5 m fc=>x8x call hs u (x2f call hs u n) t0 t3 t4 t5 m fc
noncomputable def xb2 (call:x1lo) (hs:FHs) (u:Nat) (t0 t3 t4:AV) (m:Mem) (fc:Nat):O2:=
 x2f call hs u NN t0 t3 t4 (I 0) m (fc+1)
noncomputable def xg3 (call:x1lo) (hs:FHs) (u:Nat) (t0:AV) (m:Mem) (fc:Nat):O2:=
 (sLen Try.prog x4 t0).bind fun t7=>
  x1mr x1mc 1 8 t7 t7 (u,fc+3,8) m fun t8 m_3=>
  xb2 call hs u t0 t8 (I 0) m_3 (fc+6)
noncomputable def x6e (call:x1lo) (hs:FHs) (u:Nat) (t2 t4:AV) (m:Mem) (fc:Nat):O2:=
 (sLd true 2 t4 m).bind fun t70=>
  sSt 2 t2 t70 m fun m_1=>
  (sLdP true 2 t2 m_1).bind fun r0=>
  some (r0,m_1)
noncomputable def xg4 (call:x1lo) (hs:FHs) (u:Nat) (t3 t4 t5 t6 t7:AV) (m:Mem) (fc:Nat):Option Mem:=
 (sFA 2 t3).bind fun t29=>
  (sLd false 1 t29 m).bind fun t30=>
  (sIxA 2 1 t7 (I 0)).bind fun t31=>
  (sLd false 1 t31 m).bind fun t32=>
  (sIx 1 t30 t32).bind fun t33=>
  (sLd false 1 t33 m).bind fun t34=>
  (sFA 2 t3).bind fun t35=>
  (sLd false 1 t35 m).bind fun t36=>
  (sIxA 2 1 t7 (I 1)).bind fun t37=>
  (sLd false 1 t37 m).bind fun t38=>
  (sIx 1 t36 t38).bind fun t39=>
  (sLd false 1 t39 m).bind fun t40=>
  (x1lq call x2r [t34] m).bind fun p42=>
  (bif sW p42.1 false then some (t40,p42.2) else some (U,p42.2)).bind fun p44=>
  (bif sW p42.1 false then (x1lq call x2r [p44.1] p44.2).bind fun p=>some (p.1,p.2) else some (U,p44.2)).bind fun p45=>
  (x1lx p42.1 (B true) p45.1).bind fun t46=>
  x1lr t46
  (some p45.2)
  ((sFA 1 t4).bind fun t47=>
  (sLd false 1 t47 p45.2).bind fun t48=>
  (sIxA 2 1 t7 (I 0)).bind fun t49=>
  (sLd false 1 t49 p45.2).bind fun t50=>
  (sIxA 2 1 t7 (I 1)).bind fun t51=>
  (sLd false 1 t51 p45.2).bind fun t52=>
  (sSub t40 t34).bind fun t55=>
  (sSub t40 t34).bind fun t58=>
  (x1lq call x4q [t58] p45.2).bind fun p59=>
  (sSub t55 p59.1).bind fun t60=>
  (sQuo t60 (I 4096)).bind fun t61=>
  (sLd false 1 t5 p59.2).bind fun t62=>
  (sIx 1 t62 t6).bind fun t64=>
  (sLd false 1 t64 p59.2).bind fun t65=>
  (x1m4 xb [(0,1,t50),(1,1,t52),(2,1,t61),(3,1,t65)]).bind fun t66=>
  x1ma xb [(0,4,t66)] 1 4 (u,fc+40,67) p59.2 fun t67 m_2=>
  sApp 4 32 (u,fc+41,68) (elems m_2.get 4 t67) t48 m_2 fun t68 m_3=>
  (sFA 1 t4).bind fun t69=>
  sSt 1 t69 t68 m_3 fun m_4=>
  bif (Nat.ble 1 (mkM 0 [t58])&&true)&&(cAp none (tR t47) (mkM 0 [t58])&&(cAp none (tR t49) (mkM 0 [t58])&&(cAp none (tR t51) (mkM 0 [t58])&&(cAp (some p45.2.next) (tR t5) (mkM 0 [t58])&&(cAp (some p45.2.next) (tR t64) (mkM 0 [t58])&&(x1ls (tR t47) (some [],some [(u,fc+40,67)])&&true)))))) then
  some m_4 else none)
noncomputable def xl3 (call:x1lo) (hs:FHs) (u:Nat) (t3 t4 t5 t27 t28:AV) (m:Mem) (fc:Nat):Option Mem:=
 x1m5 x8y (u,fc+1,7) m fun t7 m_5=>
  sSt 2 t7 t28 m_5 fun m_6=>
  xg4 call hs u t3 t4 t5 t27 t7 m_6 (fc+3)
noncomputable def xg5 (call:x1lo) (hs:FHs) (u:Nat) (t2 t3 t4 t5 t26:AV) (m:Mem) (fc:Nat):O2:=
 sRng t26 fun g caps=>
 (call (((u,fc,0),fun args m=>bif Nat.beq args.length 2&&true then xl3 call hs m.next t3 t4 t5 (args.getD 0 U) (args.getD 1 U) ⟨m.hp,m.next+1⟩ 0 else none)::hs) g (.yld (u,fc,0)::caps) m).bind fun p=>x6e call hs u t2 t4 p.2 (fc+1)
noncomputable def xg6 (call:x1lo) (hs:FHs) (u:Nat) (t2 t3 t4 t5:AV) (m:Mem) (fc:Nat):O2:=
 (sFA 0 t3).bind fun t22=>
  (sLd false 1 t22 m).bind fun t23=>
  (sFA 1 t3).bind fun t24=>
  (sLd false 1 t24 m).bind fun t25=>
  (x1lq call x8h [t23,t25] m).bind fun p26=>
  xg5 call hs u t2 t3 t4 t5 p26.1 p26.2 (fc+5)
noncomputable def xl4 (call:x1lo) (hs:FHs) (u:Nat) (t0:AV) (m:Mem) (fc:Nat):O2:=
 sBox t0 (u,fc,1) m fun t1 m_7=>
  x1m5 x44 (u,fc+1,2) m_7 fun t2 m_8=>
  (sFA 0 t1).bind fun t10=>
  (sLd true 3 t10 m_8).bind fun t11=>
  x1m5 x1p (u,fc+4,3) m_8 fun t3 m_9=>
  sSt 3 t3 t11 m_9 fun m_10=>
  (sFA 2 t3).bind fun t12=>
  (sLd false 1 t12 m_10).bind fun t13=>
  (sLen Try.prog x4 t13).bind fun t14=>
  (x1m4 x44 [(0,1,t14)]).bind fun t15=>
  x1m5 x44 (u,fc+10,4) m_10 fun t4 m_11=>
  sSt 2 t4 t15 m_11 fun m_12=>
  (sFA 3 t1).bind fun t16=>
  (sLd false 1 t16 m_12).bind fun t17=>
  (sFA 4 t1).bind fun t18=>
  (sLd false 1 t18 m_12).bind fun t19=>
  x1ma x16 [(0,1,t17),(1,1,t19)] 2 1 (u,fc+16,20) m_12 fun t20 m_13=>
  (x1lq call x5r [t20] m_13).bind fun p21=>
  x1m5 x16 (u,fc+18,5) p21.2 fun t5 m_14=>
  sSt 1 t5 p21.1 m_14 fun m_15=>
  xg6 call hs u t2 t3 t4 t5 m_15 (fc+20)
noncomputable def xl5 (call:x1lo) (hs:FHs) (u:Nat) (t0 t1 t2:AV) (m:Mem) (fc:Nat):O2:=
 (x1lq call x5 [t0,(I 1),(I 64)] m).bind fun p8=>
  (sNot p8.1).bind fun t9=>
  (bif sW t9 false then some (t1,p8.2) else some (U,p8.2)).bind fun p11=>
  (bif sW t9 false then (x1lq call x5 [p11.1,(I 1),(I 64)] p11.2).bind fun p=>some (p.1,p.2) else some (U,p11.2)).bind fun p12=>
  (bif sW t9 false then (sNot p12.1).bind fun v=>some (v,p12.2) else some (U,p12.2)).bind fun p13=>
  (x1lx t9 (B true) p13.1).bind fun t14=>
  x1lr t14
  (some ((I 2),p13.2))
  ((sMul t0 t1).bind fun t18=>
  (sNe t2 t18).bind fun t19=>
  x1lr t19
  (some ((I 10),p13.2))
  (some ((I 0),p13.2)))
noncomputable def x56 (call:x1lo) (hs:FHs) (u:Nat) (m:Mem) (fc:Nat):O2:=
 some ((I 0),m)
noncomputable def xl6 (call:x1lo) (hs:FHs) (u:Nat) (rec0:AV→AV→Mem→Nat→O2) (t0 t3:AV) (m:Mem) (fc:Nat):O2:=
 (sLen Try.prog x4 t0).bind fun t6=>
  (sLt t3 t6).bind fun t7=>
  x1lr t7
  ((sIx 1 t0 t3).bind fun t12=>
  (sLd false 1 t12 m).bind fun t13=>
  (sNe t13 (I 1000000000000)).bind fun t14=>
  (bif sW t14 true then some (t0,m) else some (U,m)).bind fun p16=>
  (bif sW t14 true then some (t3,p16.2) else some (U,p16.2)).bind fun p17=>
  (bif sW t14 true then (sIx 1 p16.1 p17.1).bind fun v=>some (v,p17.2) else some (U,p17.2)).bind fun p18=>
  (bif sW t14 true then (sLd false 1 p18.1 p18.2).bind fun v=>some (v,p18.2) else some (U,p18.2)).bind fun p19=>
  (bif sW t14 true then (x1lq call x8i [p19.1] p19.2).bind fun p=>some (p.1,p.2) else some (U,p19.2)).bind fun p20=>
  (bif sW t14 true then (sNot p20.1).bind fun v=>some (v,p20.2) else some (U,p20.2)).bind fun p21=>
  (x1lx t14 p21.1 (B false)).bind fun t22=>
  x1lr t22
  (some ((I 2),p21.2))
  ((sAdd t3 (I 1)).bind fun t9=>
  rec0 t0 t9 p21.2 (fc+20)))
  (x56 call hs u m (fc+4))
noncomputable def x6f (call:x1lo) (hs:FHs) (u:Nat):Nat→AV→AV→Mem→Nat→O2
 | 0=>fun _ _ _ _=>none
 | n+1=>fun t0 t3 m fc=>xl6 call hs u (x6f call hs u n) t0 t3 m fc
noncomputable def xg7 (call:x1lo) (hs:FHs) (u:Nat) (t0:AV) (m:Mem) (fc:Nat):O2:=
 x6f call hs u NN t0 (I 0) m (fc+1)
noncomputable def xl7 (call:x1lo) (hs:FHs) (u:Nat) (t0:AV) (m:Mem) (fc:Nat):O2:=
 xg7 call hs u t0 m (fc+1)
noncomputable def xl8 (call:x1lo) (hs:FHs) (u:Nat) (t0 t1 t2:AV) (m:Mem) (fc:Nat):O2:=
 (x1lq call xg [t0,(I 1),(I 64)] m).bind fun p9=>
  (sNot p9.1).bind fun t10=>
  (bif sW t10 false then some (t1,p9.2) else some (U,p9.2)).bind fun p12=>
  (bif sW t10 false then (x1lq call xg [p12.1,(I 1),(I 64)] p12.2).bind fun p=>some (p.1,p.2) else some (U,p12.2)).bind fun p13=>
  (bif sW t10 false then (sNot p13.1).bind fun v=>some (v,p13.2) else some (U,p13.2)).bind fun p14=>
  (x1lx t10 (B true) p14.1).bind fun t15=>
  x1lr t15
  (some ((I 2),p14.2))
  ((sMul t0 t1).bind fun t20=>
  (sNe t2 t20).bind fun t21=>
  x1lr t21
  (some ((I 10),p14.2))
  (some ((I 0),p14.2)))
noncomputable def xl9 (call:x1lo) (hs:FHs) (u:Nat) (t0 t1:AV) (m:Mem) (fc:Nat):O2:=
 sBox t0 (u,fc,2) m fun t2 m_1=>
  sBox t1 (u,fc+1,3) m_1 fun t3 m_2=>
  (sFA 2 t2).bind fun t5=>
  (sLd false 1 t5 m_2).bind fun t6=>
  (call hs x4u [t6,(AV.clo x8j [t3])] m_2).bind fun p8=>
  x1lr p8.1
  (some ((I 2),p8.2))
  (some ((I 0),p8.2))
noncomputable def xla (call:x1lo) (hs:FHs) (u:Nat) (t0:AV) (m:Mem) (fc:Nat):O2:=
 (x1lq call x4q [t0] m).bind fun p5=>
  (sEq t0 p5.1).bind fun t6=>
  some (t6,p5.2)
noncomputable def x57 (call:x1lo) (hs:FHs) (u:Nat) (t6:AV) (m:Mem) (fc:Nat):O2:=
 some (t6,m)
noncomputable def xlb (call:x1lo) (hs:FHs) (u:Nat) (rec0:AV→AV→AV→AV→Mem→Nat→O2) (t6 t25 t26 t27:AV) (m:Mem) (fc:Nat):O2:=
 (sLt t27 t26).bind fun t28=>
  x1lr t28
  ((sIx 1 t25 t27).bind fun t29=>
  (sLd false 1 t29 m).bind fun t30=>
  sApp 1 8 (u,fc+6,33) (elems m.get 1 t30) t6 m fun t33 m_1=>
  (sAdd t27 (I 1)).bind fun t34=>
  rec0 t33 t25 t26 t34 m_1 (fc+10))
  (x57 call hs u t6 m (fc+1))
noncomputable def x6g (call:x1lo) (hs:FHs) (u:Nat):Nat→AV→AV→AV→AV→Mem→Nat→O2
 | 0=>fun _ _ _ _ _ _=>none
 | n+1=>fun t6 t25 t26 t27 m fc=>xlb call hs u (x6g call hs u n) t6 t25 t26 t27 m fc
noncomputable def xg8 (call:x1lo) (hs:FHs) (u:Nat) (t0 t6:AV) (m:Mem) (fc:Nat):O2:=
 (sLen Try.prog xg9 t0).bind fun t26=>
  x6g call hs u NN t6 t0 t26 (I 0) m (fc+3)
noncomputable def x2g (call:x1lo) (hs:FHs) (u:Nat) (t0 t3:AV) (m:Mem) (fc:Nat):O2:=
 (x1o5 call x8k [nilS,t3] m).bind fun p24=>
  xg8 call hs u t0 p24.1 p24.2 (fc+3)
noncomputable def xga (call:x1lo) (hs:FHs) (u:Nat) (rec1:AV→AV→AV→AV→AV→Mem→Nat→O2) (t0 t3 t9 t10 t11:AV) (m:Mem) (fc:Nat):O2:=
 (sAdd t11 (I 1)).bind fun t22=>
  rec1 t0 t3 t9 t10 t22 m (fc+2)
noncomputable def xgb (call:x1lo) (hs:FHs) (u:Nat) (rec1:AV→AV→AV→AV→AV→Mem→Nat→O2) (t0 t3 t9 t10 t11:AV) (m:Mem) (fc:Nat):O2:=
 (sIx 1 t9 t11).bind fun t13=>
  (sLd false 1 t13 m).bind fun t14=>
  (sLen Try.prog x4 t14).bind fun t17=>
  (sAdd t3 t17).bind fun t18=>
  (sLt t18 (I 0)).bind fun t20=>
  x1lr t20
  (none)
  (xga call hs u rec1 t0 t18 t9 t10 t11 m (fc+10))
noncomputable def xlc (call:x1lo) (hs:FHs) (u:Nat) (rec1:AV→AV→AV→AV→AV→Mem→Nat→O2) (t0 t3 t9 t10 t11:AV) (m:Mem) (fc:Nat):O2:=
 (sLt t11 t10).bind fun t12=>
  x1lr t12
  (xgb call hs u rec1 t0 t3 t9 t10 t11 m (fc+1))
  (x2g call hs u t0 t3 m (fc+1))
noncomputable def x6h (call:x1lo) (hs:FHs) (u:Nat):Nat→AV→AV→AV→AV→AV→Mem→Nat→O2
 | 0=>fun _ _ _ _ _ _ _=>none
 | n+1=>fun t0 t3 t9 t10 t11 m fc=>xlc call hs u (x6h call hs u n) t0 t3 t9 t10 t11 m fc
noncomputable def xgc (call:x1lo) (hs:FHs) (u:Nat) (t0 t3:AV) (m:Mem) (fc:Nat):O2:=
 (sLen Try.prog xg9 t0).bind fun t10=>
  x6h call hs u NN t0 t3 t0 t10 (I 0) m (fc+3)
noncomputable def xld (call:x1lo) (hs:FHs) (u:Nat) (t0:AV) (m:Mem) (fc:Nat):O2:=
 xgc call hs u t0 (I 0) m (fc+2)
noncomputable def xgd (call:x1lo) (hs:FHs) (u:Nat) (t0:AV) (m:Mem) (fc:Nat):O2:=
 (x1lq call xg [t0,(I 0),(I 1000)] m).bind fun p4=>
  some (p4.1,p4.2)
noncomputable def xle (call:x1lo) (hs:FHs) (u:Nat) (t0 t1 t2 t3:AV) (m:Mem) (fc:Nat):O2:=
 sBox t0 (u,fc,4) m fun t4 m_1=>
  x1m5 xb (u,fc+1,8) m_1 fun t8 m_2=>
  (sFA 2 t4).bind fun t12=>
  (sLd false 1 t12 m_2).bind fun t13=>
  (sIx 1 t13 t1).bind fun t15=>
  (sLd false 1 t15 m_2).bind fun t16=>
  (sFA 2 t4).bind fun t17=>
  (sLd false 1 t17 m_2).bind fun t18=>
  (sIx 1 t18 t2).bind fun t20=>
  (sLd false 1 t20 m_2).bind fun t21=>
  (sEq t16 (I 1000000000000)).bind fun t23=>
  (bif sW t23 false then some (t21,m_2) else some (U,m_2)).bind fun p25=>
  (bif sW t23 false then (sEq p25.1 (I 1000000000000)).bind fun v=>some (v,p25.2) else some (U,p25.2)).bind fun p26=>
  (x1lx t23 (B true) p26.1).bind fun t27=>
  x1lr t27
  ((x1m4 xb []).bind fun t28=>
  sSt 4 t8 t28 p26.2 fun m_3=>
  (sLdP true 4 t8 m_3).bind fun r0=>
  some (AV.tup [r0,(B false)],m_3))
  ((sSub t21 t16).bind fun t33=>
  (sSub t21 t16).bind fun t36=>
  (x1lq call x5t [t36] p26.2).bind fun p37=>
  (sSub t33 p37.1).bind fun t38=>
  (sQuo t38 (I 4096)).bind fun t39=>
  (x1m4 xb [(0,1,t1),(1,1,t2),(2,1,t39),(3,1,t3)]).bind fun t41=>
  sSt 4 t8 t41 p37.2 fun m_4=>
  (sLdP true 4 t8 m_4).bind fun r0=>
  some (AV.tup [r0,(B true)],m_4))
noncomputable def xge (call:x1lo) (hs:FHs) (u:Nat) (t0 t1 t2:AV) (m:Mem) (fc:Nat):O2:=
 (sGe t0 t1).bind fun t9=>
  (bif sW t9 true then some (t0,m) else some (U,m)).bind fun p11=>
  (bif sW t9 true then some (t2,p11.2) else some (U,p11.2)).bind fun p12=>
  (bif sW t9 true then (sLe p11.1 p12.1).bind fun v=>some (v,p12.2) else some (U,p12.2)).bind fun p13=>
  (x1lx t9 p13.1 (B false)).bind fun t14=>
  some (t14,p13.2)
noncomputable def x1h (call:x1lo) (hs:FHs) (u:Nat) (t1 t3:AV) (m:Mem) (fc:Nat):O2:=
 (sFA 0 t1).bind fun t48=>
  (sFA 0 t48).bind fun t49=>
  (sLd false 1 t49 m).bind fun t50=>
  (call hs x41 [t50,(AV.clo x2p [t3])] m).bind fun p52=>
  some (p52.1,p52.2)
noncomputable def x6i (call:x1lo) (hs:FHs) (u:Nat) (rec0:AV→AV→AV→AV→AV→Mem→Nat→O2) (t1 t3 t12 t13 t14:AV) (m:Mem) (fc:Nat):O2:=
 (sAdd t14 (I 1)).bind fun t47=>
  rec0 t1 t3 t12 t13 t47 m (fc+2)
noncomputable def x8z (call:x1lo) (hs:FHs) (u:Nat) (rec0:AV→AV→AV→AV→AV→Mem→Nat→O2) (t1 t3 t12 t13 t14:AV) (m:Mem) (fc:Nat):O2:=
 (sIx 4 t12 t14).bind fun t16=>
  (sLd true 4 t16 m).bind fun t17=>
  x1m5 xb (u,fc+2,5) m fun t5 m_1=>
  sSt 4 t5 t17 m_1 fun m_2=>
  (sFA 3 t5).bind fun t18=>
  (sLd false 1 t18 m_2).bind fun t19=>
  (sGt t19 (I 0)).bind fun t20=>
  x1lr t20
  ((sLd false 1 t3 m_2).bind fun t21=>
  (sFA 0 t5).bind fun t22=>
  (sLd false 1 t22 m_2).bind fun t23=>
  (sLd false 1 t3 m_2).bind fun t24=>
  (sFA 1 t5).bind fun t25=>
  (sLd false 1 t25 m_2).bind fun t26=>
  (sLd false 1 t3 m_2).bind fun t27=>
  (sFA 0 t5).bind fun t28=>
  (sLd false 1 t28 m_2).bind fun t29=>
  (sIx 1 t27 t29).bind fun t30=>
  (sLd false 1 t30 m_2).bind fun t31=>
  (sFA 1 t5).bind fun t32=>
  (sLd false 1 t32 m_2).bind fun t33=>
  x1ma x1mc [(0,1,t33)] 1 1 (u,fc+20,34) m_2 fun t34 m_3=>
  sApp 1 8 (u,fc+21,35) (elems m_3.get 1 t34) t31 m_3 fun t35 m_4=>
  (sLd false 1 t3 m_4).bind fun t36=>
  (sFA 1 t5).bind fun t37=>
  (sLd false 1 t37 m_4).bind fun t38=>
  (sIx 1 t36 t38).bind fun t39=>
  (sLd false 1 t39 m_4).bind fun t40=>
  (sFA 0 t5).bind fun t41=>
  (sLd false 1 t41 m_4).bind fun t42=>
  x1ma x1mc [(0,1,t42)] 1 1 (u,fc+29,43) m_4 fun t43 m_5=>
  sApp 1 8 (u,fc+30,44) (elems m_5.get 1 t43) t40 m_5 fun t44 m_6=>
  (sIx 1 t21 t23).bind fun t45=>
  sSt 1 t45 t35 m_6 fun m_7=>
  (sIx 1 t24 t26).bind fun t46=>
  sSt 1 t46 t44 m_7 fun m_8=>
  bif (x1ls (tR t3) (some [],some [(u,fc+20,34)])&&(x1ls (tR t22) (some [],some [(u,fc+20,34)])&&(x1ls (tR t3) (some [],some [(u,fc+20,34)])&&(x1ls (tR t25) (some [],some [(u,fc+20,34)])&&(x1ls (tR t3) (some [],some [(u,fc+20,34)])&&(x1ls (tR t28) (some [],some [(u,fc+20,34)])&&(x1ls (tR t30) (some [],some [(u,fc+20,34)])&&(x1ls (tR t3) (tX t34,tA (u,fc+21,35) t31)&&(x1ls (tR t22) (tX t34,tA (u,fc+21,35) t31)&&(x1ls (tR t3) (tX t34,tA (u,fc+21,35) t31)&&(x1ls (tR t25) (tX t34,tA (u,fc+21,35) t31)&&(x1ls (some [],some [(u,fc+20,34)]) (tR t3)&&(x1ls (tX t34,tA (u,fc+21,35) t31) (tR t3)&&(x1ls (some [],some [(u,fc+20,34)]) (tR t37)&&(x1ls (tX t34,tA (u,fc+21,35) t31) (tR t37)&&(x1ls (some [],some [(u,fc+20,34)]) (tR t39)&&(x1ls (tX t34,tA (u,fc+21,35) t31) (tR t39)&&(x1ls (some [],some [(u,fc+20,34)]) (tR t41)&&(x1ls (tX t34,tA (u,fc+21,35) t31) (tR t41)&&(x1ls (tR t3) (some [],some [(u,fc+29,43)])&&(x1ls (tR t22) (some [],some [(u,fc+29,43)])&&(x1ls (tR t3) (some [],some [(u,fc+29,43)])&&(x1ls (tR t25) (some [],some [(u,fc+29,43)])&&(x1ls (tR t3) (some [],some [(u,fc+29,43)])&&(x1ls (tR t28) (some [],some [(u,fc+29,43)])&&(x1ls (tR t30) (some [],some [(u,fc+29,43)])&&(x1ls (tR t32) (some [],some [(u,fc+29,43)])&&(x1ls (some [],some [(u,fc+20,34)]) (some [],some [(u,fc+29,43)])&&(x1ls (tX t34,tA (u,fc+21,35) t31) (some [],some [(u,fc+29,43)])&&(x1ls (tR t3) (some [],some [(u,fc+29,43)])&&(x1ls (tR t37) (some [],some [(u,fc+29,43)])&&(x1ls (tR t39) (some [],some [(u,fc+29,43)])&&(x1ls (tR t3) (tX t43,tA (u,fc+30,44) t40)&&(x1ls (tR t22) (tX t43,tA (u,fc+30,44) t40)&&(x1ls (tR t3) (tX t43,tA (u,fc+30,44) t40)&&(x1ls (tR t25) (tX t43,tA (u,fc+30,44) t40)&&(x1ls (tR t3) (tS t45)&&(x1ls (tR t25) (tS t45)&&true)))))))))))))))))))))))))))))))))))))) then
  x6i call hs u rec0 t1 t3 t12 t13 t14 m_8 (fc+35) else none)
  (x6i call hs u rec0 t1 t3 t12 t13 t14 m_2 (fc+7))
noncomputable def x90 (call:x1lo) (hs:FHs) (u:Nat) (rec0:AV→AV→AV→AV→AV→Mem→Nat→O2) (t1 t3 t12 t13 t14:AV) (m:Mem) (fc:Nat):O2:=
 (sLt t14 t13).bind fun t15=>
  x1lr t15
  (x8z call hs u rec0 t1 t3 t12 t13 t14 m (fc+1))
  (x1h call hs u t1 t3 m (fc+1))
noncomputable def x1u (call:x1lo) (hs:FHs) (u:Nat):Nat→AV→AV→AV→AV→AV→Mem→Nat→O2
 | 0=>fun _ _ _ _ _ _ _=>none
 | n+1=>fun t1 t3 t12 t13 t14 m fc=>x90 call hs u (x1u call hs u n) t1 t3 t12 t13 t14 m fc
noncomputable def xb3 (call:x1lo) (hs:FHs) (u:Nat) (t1 t3:AV) (m:Mem) (fc:Nat):O2:=
 (sFA 0 t1).bind fun t10=>
  (sFA 1 t10).bind fun t11=>
  (sLd false 1 t11 m).bind fun t12=>
  (sLen Try.prog x6 t12).bind fun t13=>
  x1u call hs u NN t1 t3 t12 t13 (I 0) m (fc+5)
noncomputable def xb4 (call:x1lo) (hs:FHs) (u:Nat) (t0:AV) (m:Mem) (fc:Nat):O2:=
 sBox t0 (u,fc,1) m fun t1 m_9=>
  (sFA 0 t1).bind fun t6=>
  (sFA 0 t6).bind fun t7=>
  (sLd false 1 t7 m_9).bind fun t8=>
  x1mr x16 1 24 t8 t8 (u,fc+5,9) m_9 fun t9 m_10=>
  x1m5 xb5 (u,fc+6,3) m_10 fun t3 m_11=>
  sSt 1 t3 t9 m_11 fun m_12=>
  xb3 call hs u t1 t3 m_12 (fc+8)
noncomputable def x1v (call:x1lo) (hs:FHs) (u:Nat) (t5:AV) (m:Mem) (fc:Nat):O2:=
 (sFA 0 t5).bind fun t45=>
  (sLd false 1 t45 m).bind fun t46=>
  some (t46,m)
noncomputable def x6j (call:x1lo) (hs:FHs) (u:Nat) (rec0:AV→AV→AV→AV→AV→Mem→Nat→O2) (t0 t1 t5 t12 t13:AV) (m:Mem) (fc:Nat):O2:=
 (sAdd t13 (I 1)).bind fun t44=>
  rec0 t0 t1 t5 t12 t44 m (fc+2)
noncomputable def x91 (call:x1lo) (hs:FHs) (u:Nat) (rec0:AV→AV→AV→AV→AV→Mem→Nat→O2) (t0 t1 t5 t12 t13:AV) (m:Mem) (fc:Nat):O2:=
 (sFA 0 t5).bind fun t16=>
  (sLd false 1 t16 m).bind fun t17=>
  (sIx 1 t17 t13).bind fun t19=>
  (sLd false 1 t19 m).bind fun t20=>
  (sLt t20 (I 1152921504606846976)).bind fun t21=>
  x1lr t21
  ((sFA 0 t5).bind fun t22=>
  (sLd false 1 t22 m).bind fun t23=>
  (sIx 1 t23 t13).bind fun t25=>
  (sLd false 1 t25 m).bind fun t26=>
  (sNil t0).bind fun t28=>
  (sFA 3 t28).bind fun t29=>
  (sLd false 1 t29 m).bind fun t30=>
  (sIx 1 t30 t13).bind fun t32=>
  (sLd false 1 t32 m).bind fun t33=>
  (sNil t0).bind fun t35=>
  (sFA 3 t35).bind fun t36=>
  (sLd false 1 t36 m).bind fun t37=>
  (sIx 1 t37 t1).bind fun t39=>
  (sLd false 1 t39 m).bind fun t40=>
  (sSub t33 t40).bind fun t41=>
  (sAdd t26 t41).bind fun t42=>
  (sIx 1 t23 t13).bind fun t43=>
  sSt 1 t43 t42 m fun m_1=>
  x6j call hs u rec0 t0 t1 t5 t12 t13 m_1 (fc+31))
  (x6j call hs u rec0 t0 t1 t5 t12 t13 m (fc+8))
noncomputable def x92 (call:x1lo) (hs:FHs) (u:Nat) (rec0:AV→AV→AV→AV→AV→Mem→Nat→O2) (t0 t1 t5 t12 t13:AV) (m:Mem) (fc:Nat):O2:=
 (sLt t13 t12).bind fun t14=>
  x1lr t14
  (x91 call hs u rec0 t0 t1 t5 t12 t13 m (fc+1))
  (x1v call hs u t5 m (fc+1))
noncomputable def x2h (call:x1lo) (hs:FHs) (u:Nat):Nat→AV→AV→AV→AV→AV→Mem→Nat→O2
 | 0=>fun _ _ _ _ _ _ _=>none
 | n+1=>fun t0 t1 t5 t12 t13 m fc=>x92 call hs u (x2h call hs u n) t0 t1 t5 t12 t13 m fc
noncomputable def xb6 (call:x1lo) (hs:FHs) (u:Nat) (t0 t1 t5:AV) (m:Mem) (fc:Nat):O2:=
 (sFA 0 t5).bind fun t10=>
  (sLd false 1 t10 m).bind fun t11=>
  (sLen Try.prog x4 t11).bind fun t12=>
  x2h call hs u NN t0 t1 t5 t12 (I 0) m (fc+4)
noncomputable def xb7 (call:x1lo) (hs:FHs) (u:Nat) (t0 t1:AV) (m:Mem) (fc:Nat):O2:=
 (x1pa call x1c [t0,t1] m).bind fun p9=>
  x1m5 x6k (u,fc+4,5) p9.2 fun t5 m_2=>
  sSt 3 t5 p9.1 m_2 fun m_3=>
  xb6 call hs u t0 t1 t5 m_3 (fc+6)
noncomputable def x35 (call:x1lo) (hs:FHs) (u:Nat) (t1 t4:AV) (m:Mem) (fc:Nat):O2:=
 (sFA 0 t1).bind fun t21=>
  (sFA 0 t21).bind fun t22=>
  (sLd false 1 t22 m).bind fun t23=>
  (call hs x41 [t23,(AV.clo x2q [t1,t4])] m).bind fun p25=>
  some (p25.1,p25.2)
noncomputable def xb8 (call:x1lo) (hs:FHs) (u:Nat) (rec0:AV→AV→AV→AV→AV→Mem→Nat→O2) (t1 t3 t4 t10 t11:AV) (m:Mem) (fc:Nat):O2:=
 (sLt t11 t10).bind fun t12=>
  x1lr t12
  ((sLd false 1 t4 m).bind fun t14=>
  (x1pa call x12 [t3,t11] m).bind fun p17=>
  x1ma x16 [(0,1,p17.1)] 1 1 (u,fc+7,18) p17.2 fun t18 m_1=>
  sApp 1 24 (u,fc+8,19) (elems m_1.get 1 t18) t14 m_1 fun t19 m_2=>
  sSt 1 t4 t19 m_2 fun m_3=>
  bif (cAp none (tR t4) (mkM 4 [t3,t11])&&(x1ls (tR t4) (some [],some [(u,fc+7,18)])&&true)) then
  (sAdd t11 (I 1)).bind fun t20=>
  rec0 t1 t3 t4 t10 t20 m_3 (fc+12) else none)
  (x35 call hs u t1 t4 m (fc+1))
noncomputable def x36 (call:x1lo) (hs:FHs) (u:Nat):Nat→AV→AV→AV→AV→AV→Mem→Nat→O2
 | 0=>fun _ _ _ _ _ _ _=>none
 | n+1=>fun t1 t3 t4 t10 t11 m fc=>xb8 call hs u (x36 call hs u n) t1 t3 t4 t10 t11 m fc
noncomputable def xb9 (call:x1lo) (hs:FHs) (u:Nat) (t1 t3 t4:AV) (m:Mem) (fc:Nat):O2:=
 (sFA 0 t1).bind fun t8=>
  (sFA 0 t8).bind fun t9=>
  (sLd false 1 t9 m).bind fun t10=>
  x36 call hs u NN t1 t3 t4 t10 (I 0) m (fc+4)
noncomputable def xba (call:x1lo) (hs:FHs) (u:Nat) (t0:AV) (m:Mem) (fc:Nat):O2:=
 sBox t0 (u,fc,1) m fun t1 m_4=>
  (sLd true 2 t1 m_4).bind fun t6=>
  (x1o5 call x11 [t6] m_4).bind fun p7=>
  x1m5 xb5 (u,fc+5,4) p7.2 fun t4 m_5=>
  xb9 call hs u t1 p7.1 t4 m_5 (fc+6)
noncomputable def xi (call:x1lo) (hs:FHs) (u:Nat) (t7:AV) (m:Mem) (fc:Nat):O2:=
 some (t7,m)
noncomputable def xf (call:x1lo) (hs:FHs) (u:Nat) (rec0:AV→AV→AV→AV→Mem→Nat→O2) (t3 t7 t9 t10:AV) (m:Mem) (fc:Nat):O2:=
 (sAdd t10 (I 1)).bind fun t36=>
  rec0 t3 t7 t9 t36 m (fc+3)
noncomputable def x58 (call:x1lo) (hs:FHs) (u:Nat) (rec0:AV→AV→AV→AV→Mem→Nat→O2) (rec1:AV→AV→AV→AV→AV→Mem→Nat→O2) (t3 t7 t9 t10 t11:AV) (m:Mem) (fc:Nat):O2:=
 (sAdd t11 (I 1)).bind fun t42=>
  rec1 t3 t7 t9 t10 t42 m (fc+3)
noncomputable def x6l (call:x1lo) (hs:FHs) (u:Nat) (rec0:AV→AV→AV→AV→Mem→Nat→O2) (rec1:AV→AV→AV→AV→AV→Mem→Nat→O2) (t3 t7 t9 t10 t11:AV) (m:Mem) (fc:Nat):O2:=
 (sIx 6 t9 t11).bind fun t46=>
  (sFA 0 t46).bind fun t47=>
  (sLd false 1 t47 m).bind fun t48=>
  (sIx 1 t7 t48).bind fun t49=>
  (sLd false 1 t49 m).bind fun t50=>
  (sIx 6 t9 t11).bind fun t53=>
  (sFA 4 t53).bind fun t54=>
  (sLd false 1 t54 m).bind fun t55=>
  (sSub t50 t55).bind fun t56=>
  (sIx 6 t9 t11).bind fun t60=>
  (sFA 0 t60).bind fun t61=>
  (sLd false 1 t61 m).bind fun t62=>
  (sIx 1 t7 t62).bind fun t63=>
  (sLd false 1 t63 m).bind fun t64=>
  (sLt t64 (I 1000000000)).bind fun t65=>
  (bif sW t65 true then some (t56,m) else some (U,m)).bind fun p67=>
  (bif sW t65 true then some (t7,p67.2) else some (U,p67.2)).bind fun p68=>
  (bif sW t65 true then some (t9,p68.2) else some (U,p68.2)).bind fun p69=>
  (bif sW t65 true then some (t11,p69.2) else some (U,p69.2)).bind fun p70=>
  (bif sW t65 true then (sIx 6 p69.1 p70.1).bind fun v=>some (v,p70.2) else some (U,p70.2)).bind fun p71=>
  (bif sW t65 true then (sFA 1 p71.1).bind fun v=>some (v,p71.2) else some (U,p71.2)).bind fun p72=>
  (bif sW t65 true then (sLd false 1 p72.1 p72.2).bind fun v=>some (v,p72.2) else some (U,p72.2)).bind fun p73=>
  (bif sW t65 true then (sIx 1 p68.1 p73.1).bind fun v=>some (v,p73.2) else some (U,p73.2)).bind fun p74=>
  (bif sW t65 true then (sLd false 1 p74.1 p74.2).bind fun v=>some (v,p74.2) else some (U,p74.2)).bind fun p75=>
  (bif sW t65 true then (sLt p67.1 p75.1).bind fun v=>some (v,p75.2) else some (U,p75.2)).bind fun p76=>
  (x1lx t65 p76.1 (B false)).bind fun t77=>
  x1lr t77
  ((sIx 6 t9 t11).bind fun t81=>
  (sFA 1 t81).bind fun t82=>
  (sLd false 1 t82 p76.2).bind fun t83=>
  (sIx 1 t7 t83).bind fun t85=>
  sSt 1 t85 t56 p76.2 fun m_1=>
  x58 call hs u rec0 rec1 t3 t7 t9 t10 t11 m_1 (fc+45))
  (x58 call hs u rec0 rec1 t3 t7 t9 t10 t11 p76.2 (fc+36))
noncomputable def x6m (call:x1lo) (hs:FHs) (u:Nat) (rec0:AV→AV→AV→AV→Mem→Nat→O2) (rec1:AV→AV→AV→AV→AV→Mem→Nat→O2) (t3 t7 t9 t10 t11:AV) (m:Mem) (fc:Nat):O2:=
 (sLen Try.prog xgf t9).bind fun t39=>
  (sLt t11 t39).bind fun t40=>
  x1lr t40
  (x6l call hs u rec0 rec1 t3 t7 t9 t10 t11 m (fc+4))
  (xf call hs u rec0 t3 t7 t9 t10 m (fc+4))
noncomputable def x1w (call:x1lo) (hs:FHs) (u:Nat) (rec0:AV→AV→AV→AV→Mem→Nat→O2):Nat→AV→AV→AV→AV→AV→Mem→Nat→O2
 | 0=>fun _ _ _ _ _ _ _=>none
 | n+1=>fun t3 t7 t9 t10 t11 m fc=>x6m call hs u rec0 (x1w call hs u rec0 n) t3 t7 t9 t10 t11 m fc
noncomputable def x93 (call:x1lo) (hs:FHs) (u:Nat) (rec0:AV→AV→AV→AV→Mem→Nat→O2) (t3 t7 t9 t10:AV) (m:Mem) (fc:Nat):O2:=
 x1w call hs u rec0 NN t3 t7 t9 t10 (I 0) m (fc+1)
noncomputable def x94 (call:x1lo) (hs:FHs) (u:Nat) (rec0:AV→AV→AV→AV→Mem→Nat→O2) (t3 t7 t9 t10:AV) (m:Mem) (fc:Nat):O2:=
 (sFA 0 t3).bind fun t32=>
  (sLd false 1 t32 m).bind fun t33=>
  (sLt t10 t33).bind fun t34=>
  x1lr t34
  (x93 call hs u rec0 t3 t7 t9 t10 m (fc+4))
  (xi call hs u t7 m (fc+4))
noncomputable def x1x (call:x1lo) (hs:FHs) (u:Nat):Nat→AV→AV→AV→AV→Mem→Nat→O2
 | 0=>fun _ _ _ _ _ _=>none
 | n+1=>fun t3 t7 t9 t10 m fc=>x94 call hs u (x1x call hs u n) t3 t7 t9 t10 m fc
noncomputable def xbb (call:x1lo) (hs:FHs) (u:Nat) (t3 t7 t9:AV) (m:Mem) (fc:Nat):O2:=
 x1x call hs u NN t3 t7 t9 (I 0) m (fc+1)
noncomputable def x37 (call:x1lo) (hs:FHs) (u:Nat) (t1 t2 t3 t7:AV) (m:Mem) (fc:Nat):O2:=
 (sIx 1 t7 t2).bind fun t27=>
  sSt 1 t27 (I 0) m fun m_2=>
  (sLd true 2 t3 m_2).bind fun t28=>
  (x1lq call x42 [t28,t1] m_2).bind fun p30=>
  xbb call hs u t3 t7 p30.1 p30.2 (fc+8)
noncomputable def xbc (call:x1lo) (hs:FHs) (u:Nat) (rec2:AV→AV→AV→AV→AV→Mem→Nat→O2) (t1 t2 t3 t7 t8:AV) (m:Mem) (fc:Nat):O2:=
 (sFA 0 t3).bind fun t17=>
  (sLd false 1 t17 m).bind fun t18=>
  (sLt t8 t18).bind fun t19=>
  x1lr t19
  ((sIx 1 t7 t8).bind fun t24=>
  sSt 1 t24 (I 1000000000) m fun m_3=>
  (sAdd t8 (I 1)).bind fun t21=>
  rec2 t1 t2 t3 t7 t21 m_3 (fc+11))
  (x37 call hs u t1 t2 t3 t7 m (fc+4))
noncomputable def x38 (call:x1lo) (hs:FHs) (u:Nat):Nat→AV→AV→AV→AV→AV→Mem→Nat→O2
 | 0=>fun _ _ _ _ _ _ _=>none
 | n+1=>fun t1 t2 t3 t7 t8 m fc=>xbc call hs u (x38 call hs u n) t1 t2 t3 t7 t8 m fc
noncomputable def xbd (call:x1lo) (hs:FHs) (u:Nat) (t1 t2 t3 t7:AV) (m:Mem) (fc:Nat):O2:=
 x38 call hs u NN t1 t2 t3 t7 (I 0) m (fc+1)
noncomputable def xgg (call:x1lo) (hs:FHs) (u:Nat) (t0 t1 t2:AV) (m:Mem) (fc:Nat):O2:=
 sBox t0 (u,fc,3) m fun t3 m_4=>
  (sFA 0 t3).bind fun t13=>
  (sLd false 1 t13 m_4).bind fun t14=>
  x1mr x1mc 1 8 t14 t14 (u,fc+4,15) m_4 fun t15 m_5=>
  xbd call hs u t1 t2 t3 t15 m_5 (fc+6)
noncomputable def xbe (call:x1lo) (hs:FHs) (u:Nat) (rec0:AV→AV→AV→AV→AV→AV→Mem→Nat→O2) (t6 t8 t9 t14 t16 t17:AV) (m:Mem) (fc:Nat):O2:=
 (sIx 1 t8 t17).bind fun t145=>
  (sLd false 1 t145 m).bind fun t146=>
  (sIx 6 t6 t146).bind fun t147=>
  (sLd true 6 t147 m).bind fun t148=>
  x1m5 x4g (u,fc+7,18) m fun t18 m_1=>
  sSt 6 t18 t148 m_1 fun m_2=>
  (sFA 2 t18).bind fun t150=>
  (sLd false 1 t150 m_2).bind fun t151=>
  (sFA 2 t18).bind fun t153=>
  (sLd false 1 t153 m_2).bind fun t154=>
  (sIx 1 t16 t154).bind fun t155=>
  (sLd false 1 t155 m_2).bind fun t156=>
  (sFA 3 t18).bind fun t157=>
  (sLd false 1 t157 m_2).bind fun t158=>
  (sMul t158 t14).bind fun t160=>
  (sAdd t156 t160).bind fun t161=>
  (sIx 1 t16 t151).bind fun t162=>
  sSt 1 t162 t161 m_2 fun m_3=>
  (sFA 0 t18).bind fun t163=>
  (sLd false 1 t163 m_3).bind fun t164=>
  (sEq t164 t9).bind fun t167=>
  x1lr t167
  (some (AV.tup [t16,(B true)],m_3))
  (rec0 t6 t8 t9 t14 t16 t164 m_3 (fc+30))
noncomputable def x39 (call:x1lo) (hs:FHs) (u:Nat):Nat→AV→AV→AV→AV→AV→AV→Mem→Nat→O2
 | 0=>fun _ _ _ _ _ _ _ _=>none
 | n+1=>fun t6 t8 t9 t14 t16 t17 m fc=>xbe call hs u (x39 call hs u n) t6 t8 t9 t14 t16 t17 m fc
noncomputable def x3a (call:x1lo) (hs:FHs) (u:Nat) (t1 t6 t8 t9 t14:AV) (m:Mem) (fc:Nat):O2:=
 (x1o5 call xh [t1] m).bind fun p140=>
  x39 call hs u NN t6 t8 t9 t14 p140.1 t9 p140.2 (fc+5)
noncomputable def xbf (call:x1lo) (hs:FHs) (u:Nat) (rec1:AV→AV→AV→AV→AV→AV→Mem→Nat→O2) (t1 t6 t8 t9 t14 t15:AV) (m:Mem) (fc:Nat):O2:=
 (sNe t15 t9).bind fun t120=>
  x1lr t120
  ((sIx 1 t8 t15).bind fun t133=>
  (sLd false 1 t133 m).bind fun t134=>
  (sIx 6 t6 t134).bind fun t135=>
  (sFA 5 t135).bind fun t136=>
  (sLd false 1 t136 m).bind fun t137=>
  (sMin t14 t137).bind fun t138=>
  (sIx 1 t8 t15).bind fun t124=>
  (sLd false 1 t124 m).bind fun t125=>
  (sIx 6 t6 t125).bind fun t126=>
  (sFA 0 t126).bind fun t127=>
  (sLd false 1 t127 m).bind fun t128=>
  rec1 t1 t6 t8 t9 t138 t128 m (fc+23))
  (x3a call hs u t1 t6 t8 t9 t14 m (fc+3))
noncomputable def x3b (call:x1lo) (hs:FHs) (u:Nat):Nat→AV→AV→AV→AV→AV→AV→Mem→Nat→O2
 | 0=>fun _ _ _ _ _ _ _ _=>none
 | n+1=>fun t1 t6 t8 t9 t14 t15 m fc=>xbf call hs u (x3b call hs u n) t1 t6 t8 t9 t14 t15 m fc
noncomputable def xbg (call:x1lo) (hs:FHs) (u:Nat) (t1 t6 t8 t9 t14:AV) (m:Mem) (fc:Nat):O2:=
 (sIx 1 t8 t9).bind fun t113=>
  (sLd false 1 t113 m).bind fun t114=>
  (sIx 6 t6 t114).bind fun t115=>
  (sFA 0 t115).bind fun t116=>
  (sLd false 1 t116 m).bind fun t117=>
  x3b call hs u NN t1 t6 t8 t9 t14 t117 m (fc+9)
noncomputable def x3c (call:x1lo) (hs:FHs) (u:Nat) (t1 t6 t8 t9:AV) (m:Mem) (fc:Nat):O2:=
 (sIx 1 t8 t9).bind fun t105=>
  (sLd false 1 t105 m).bind fun t106=>
  (sIx 6 t6 t106).bind fun t107=>
  (sFA 5 t107).bind fun t108=>
  (sLd false 1 t108 m).bind fun t109=>
  xbg call hs u t1 t6 t8 t9 t109 m (fc+9)
noncomputable def xbh (call:x1lo) (hs:FHs) (u:Nat) (rec2:AV→AV→AV→AV→AV→AV→Mem→Nat→O2) (t1 t2 t6 t8 t9 t13:AV) (m:Mem) (fc:Nat):O2:=
 (sFA 0 t2).bind fun t89=>
  (sLd false 1 t89 m).bind fun t90=>
  (sLt t13 t90).bind fun t91=>
  x1lr t91
  ((sIx 1 t8 t9).bind fun t97=>
  (sLd false 1 t97 m).bind fun t98=>
  (sIx 6 t6 t98).bind fun t99=>
  (sFA 0 t99).bind fun t100=>
  (sLd false 1 t100 m).bind fun t101=>
  (sAdd t13 (I 1)).bind fun t93=>
  rec2 t1 t2 t6 t8 t101 t93 m (fc+16))
  (x3c call hs u t1 t6 t8 t9 m (fc+4))
noncomputable def x3d (call:x1lo) (hs:FHs) (u:Nat):Nat→AV→AV→AV→AV→AV→AV→Mem→Nat→O2
 | 0=>fun _ _ _ _ _ _ _ _=>none
 | n+1=>fun t1 t2 t6 t8 t9 t13 m fc=>xbh call hs u (x3d call hs u n) t1 t2 t6 t8 t9 t13 m fc
noncomputable def x7 (call:x1lo) (hs:FHs) (u:Nat) (t1 t2 t6 t8 t9:AV) (m:Mem) (fc:Nat):O2:=
 x3d call hs u NN t1 t2 t6 t8 t9 (I 0) m (fc+1)
noncomputable def xo (call:x1lo) (hs:FHs) (u:Nat) (rec3:AV→AV→AV→AV→AV→AV→AV→Mem→Nat→O2) (t1 t2 t6 t7 t8 t9 t10:AV) (m:Mem) (fc:Nat):O2:=
 (sAdd t10 (I 1)).bind fun t33=>
  rec3 t1 t2 t6 t7 t8 t9 t33 m (fc+3)
noncomputable def x18 (call:x1lo) (hs:FHs) (u:Nat) (rec3:AV→AV→AV→AV→AV→AV→AV→Mem→Nat→O2) (t1 t2 t6 t7 t8 t9 t10:AV) (m:Mem) (fc:Nat):O2:=
 (sLt t9 (I 0)).bind fun t86=>
  x1lr t86
  (some (AV.tup [t1,(B false)],m))
  (xo call hs u rec3 t1 t2 t6 t7 t8 t9 t10 m (fc+2))
noncomputable def x6n (call:x1lo) (hs:FHs) (u:Nat) (rec3:AV→AV→AV→AV→AV→AV→AV→Mem→Nat→O2) (rec4:AV→AV→AV→AV→AV→AV→AV→AV→Mem→Nat→O2) (t1 t2 t6 t7 t8 t9 t10 t11:AV) (m:Mem) (fc:Nat):O2:=
 (sAdd t11 (I 1)).bind fun t39=>
  rec4 t1 t2 t6 t7 t8 t9 t10 t39 m (fc+3)
noncomputable def x95 (call:x1lo) (hs:FHs) (u:Nat) (rec3:AV→AV→AV→AV→AV→AV→AV→Mem→Nat→O2) (rec4:AV→AV→AV→AV→AV→AV→AV→AV→Mem→Nat→O2) (t1 t2 t6 t7 t8 t9 t10 t11:AV) (m:Mem) (fc:Nat):O2:=
 (sIx 6 t6 t11).bind fun t43=>
  (sFA 0 t43).bind fun t44=>
  (sLd false 1 t44 m).bind fun t45=>
  (sIx 1 t7 t45).bind fun t46=>
  (sLd false 1 t46 m).bind fun t47=>
  (sIx 6 t6 t11).bind fun t50=>
  (sFA 4 t50).bind fun t51=>
  (sLd false 1 t51 m).bind fun t52=>
  (sAdd t47 t52).bind fun t53=>
  (sIx 6 t6 t11).bind fun t58=>
  (sFA 1 t58).bind fun t59=>
  (sLd false 1 t59 m).bind fun t60=>
  (sIx 1 t7 t60).bind fun t61=>
  (sLd false 1 t61 m).bind fun t62=>
  (sGt t53 t62).bind fun t63=>
  x1lr t63
  ((sIx 6 t6 t11).bind fun t67=>
  (sFA 1 t67).bind fun t68=>
  (sLd false 1 t68 m).bind fun t69=>
  (sIx 6 t6 t11).bind fun t73=>
  (sFA 1 t73).bind fun t74=>
  (sLd false 1 t74 m).bind fun t75=>
  (sIx 6 t6 t11).bind fun t80=>
  (sFA 1 t80).bind fun t81=>
  (sLd false 1 t81 m).bind fun t82=>
  (sIx 1 t7 t69).bind fun t83=>
  sSt 1 t83 t53 m fun m_4=>
  (sIx 1 t8 t75).bind fun t84=>
  sSt 1 t84 t11 m_4 fun m_5=>
  x6n call hs u rec3 rec4 t1 t2 t6 t7 t8 t82 t10 t11 m_5 (fc+49))
  (x6n call hs u rec3 rec4 t1 t2 t6 t7 t8 t9 t10 t11 m (fc+25))
noncomputable def x96 (call:x1lo) (hs:FHs) (u:Nat) (rec3:AV→AV→AV→AV→AV→AV→AV→Mem→Nat→O2) (rec4:AV→AV→AV→AV→AV→AV→AV→AV→Mem→Nat→O2) (t1 t2 t6 t7 t8 t9 t10 t11:AV) (m:Mem) (fc:Nat):O2:=
 (sLen Try.prog xgf t6).bind fun t36=>
  (sLt t11 t36).bind fun t37=>
  x1lr t37
  (x95 call hs u rec3 rec4 t1 t2 t6 t7 t8 t9 t10 t11 m (fc+4))
  (x18 call hs u rec3 t1 t2 t6 t7 t8 t9 t10 m (fc+4))
noncomputable def x2i (call:x1lo) (hs:FHs) (u:Nat) (rec3:AV→AV→AV→AV→AV→AV→AV→Mem→Nat→O2):Nat→AV→AV→AV→AV→AV→AV→AV→AV→Mem→Nat→O2
 | 0=>fun _ _ _ _ _ _ _ _ _ _=>none
 | n+1=>fun t1 t2 t6 t7 t8 t9 t10 t11 m fc=>x96 call hs u rec3 (x2i call hs u rec3 n) t1 t2 t6 t7 t8 t9 t10 t11 m fc
noncomputable def xbi (call:x1lo) (hs:FHs) (u:Nat) (rec3:AV→AV→AV→AV→AV→AV→AV→Mem→Nat→O2) (t1 t2 t6 t7 t8 t9 t10:AV) (m:Mem) (fc:Nat):O2:=
 x2i call hs u rec3 NN t1 t2 t6 t7 t8 t9 t10 (I 0) m (fc+1)
noncomputable def x97 (call:x1lo) (hs:FHs) (u:Nat) (rec3:AV→AV→AV→AV→AV→AV→AV→Mem→Nat→O2) (t1 t2 t6 t7 t8 t10:AV) (m:Mem) (fc:Nat):O2:=
 xbi call hs u rec3 t1 t2 t6 t7 t8 (I (-1)) t10 m (fc+1)
noncomputable def x98 (call:x1lo) (hs:FHs) (u:Nat) (rec3:AV→AV→AV→AV→AV→AV→AV→Mem→Nat→O2) (t1 t2 t6 t7 t8 t9 t10:AV) (m:Mem) (fc:Nat):O2:=
 (sFA 0 t2).bind fun t29=>
  (sLd false 1 t29 m).bind fun t30=>
  (sLe t10 t30).bind fun t31=>
  x1lr t31
  (x97 call hs u rec3 t1 t2 t6 t7 t8 t10 m (fc+4))
  (x7 call hs u t1 t2 t6 t8 t9 m (fc+4))
noncomputable def xw (call:x1lo) (hs:FHs) (u:Nat):Nat→AV→AV→AV→AV→AV→AV→AV→Mem→Nat→O2
 | 0=>fun _ _ _ _ _ _ _ _ _=>none
 | n+1=>fun t1 t2 t6 t7 t8 t9 t10 m fc=>x98 call hs u (xw call hs u n) t1 t2 t6 t7 t8 t9 t10 m fc
noncomputable def xbj (call:x1lo) (hs:FHs) (u:Nat) (t1 t2 t6 t7 t8 t9:AV) (m:Mem) (fc:Nat):O2:=
 xw call hs u NN t1 t2 t6 t7 t8 t9 (I 0) m (fc+1)
noncomputable def xgh (call:x1lo) (hs:FHs) (u:Nat) (t0 t1:AV) (m:Mem) (fc:Nat):O2:=
 sBox t0 (u,fc,2) m fun t2 m_6=>
  (sLd true 2 t2 m_6).bind fun t19=>
  (x1lq call x42 [t19,t1] m_6).bind fun p21=>
  (sFA 0 t2).bind fun t22=>
  (sLd false 1 t22 p21.2).bind fun t23=>
  x1mr x1mc 1 8 t23 t23 (u,fc+9,24) p21.2 fun t24 m_7=>
  (sFA 0 t2).bind fun t25=>
  (sLd false 1 t25 m_7).bind fun t26=>
  x1mr x1mc 1 8 t26 t26 (u,fc+12,27) m_7 fun t27 m_8=>
  bif (x1ls (some [],some [(u,fc+9,24)]) (tR t25)&&(x1ls (tR t22) (some [],some [(u,fc+12,27)])&&(x1ls (some [],some [(u,fc+9,24)]) (some [],some [(u,fc+12,27)])&&true))) then
  xbj call hs u t1 t2 p21.1 t24 t27 (I (-1)) m_8 (fc+16) else none
noncomputable def xlf (call:x1lo) (hs:FHs) (u:Nat) (t0 t1:AV) (m:Mem) (fc:Nat):O2:=
 (call hs x3o [t0,t1] m).bind fun p7=>
  (sGe p7.1 (I 0)).bind fun t8=>
  some (t8,p7.2)
noncomputable def xlg (call:x1lo) (hs:FHs) (u:Nat) (t0:AV) (m:Mem) (fc:Nat):O2:=
 (x1lq call xg [t0,(I (-1000000)),(I 1000000)] m).bind fun p4=>
  (sNot p4.1).bind fun t5=>
  some (t5,p4.2)
noncomputable def xlh (call:x1lo) (hs:FHs) (u:Nat) (t0:AV) (m:Mem) (fc:Nat):O2:=
 (sBin Try.prog .eql x4 (.tmp 3) (.const (.slice none 0 0)) t0 nilS).bind fun t4=>
  x1lr t4
  (some (nilS,m))
  (x1ma x1mc [] 0 1 (u,fc+3,5) m fun t5 m_1=>
  sApp 1 8 (u,fc+5,7) (elems m_1.get 1 t0) t5 m_1 fun t7 m_2=>
  some (t7,m_2))
noncomputable def xli (call:x1lo) (hs:FHs) (u:Nat) (t0:AV) (m:Mem) (fc:Nat):O2:=
 (sEq t0 (I 1000000000000)).bind fun t4=>
  some (t4,m)
noncomputable def x59 (call:x1lo) (hs:FHs) (u:Nat) (t6 t7:AV) (m:Mem) (fc:Nat):O2:=
 (x1lq call x4u [t6,(AV.clo x8n [])] m).bind fun p74=>
  x1lr p74.1
  (some (AV.tup [(I 0),(I 25)],p74.2))
  (some (AV.tup [t7,(I 0)],p74.2))
noncomputable def xlj (call:x1lo) (hs:FHs) (u:Nat) (rec0:AV→AV→AV→AV→AV→AV→Mem→Nat→O2) (t1 t6 t7 t23 t24 t25:AV) (m:Mem) (fc:Nat):O2:=
 (sLt t25 t24).bind fun t26=>
  x1lr t26
  ((sIx 4 t23 t25).bind fun t28=>
  (sLd true 4 t28 m).bind fun t29=>
  x1m5 xb (u,fc+4,9) m fun t9 m_1=>
  sSt 4 t9 t29 m_1 fun m_2=>
  (sIx 1 t1 t25).bind fun t32=>
  (sLd false 1 t32 m_2).bind fun t33=>
  (sFA 3 t9).bind fun t34=>
  (sLd false 1 t34 m_2).bind fun t35=>
  (sNeg t35).bind fun t36=>
  (sFA 3 t9).bind fun t37=>
  (sLd false 1 t37 m_2).bind fun t38=>
  (x1lq call xg [t33,t36,t38] m_2).bind fun p39=>
  (sNot p39.1).bind fun t40=>
  x1lr t40
  (some (AV.tup [(I 0),(I 2)],p39.2))
  ((sFA 0 t9).bind fun t42=>
  (sLd false 1 t42 p39.2).bind fun t43=>
  (sIx 1 t6 t43).bind fun t44=>
  (sLd false 1 t44 p39.2).bind fun t45=>
  (sIx 1 t1 t25).bind fun t48=>
  (sLd false 1 t48 p39.2).bind fun t49=>
  (sSub t45 t49).bind fun t50=>
  (sIx 1 t6 t43).bind fun t51=>
  sSt 1 t51 t50 p39.2 fun m_3=>
  (sFA 1 t9).bind fun t53=>
  (sLd false 1 t53 m_3).bind fun t54=>
  (sIx 1 t6 t54).bind fun t55=>
  (sLd false 1 t55 m_3).bind fun t56=>
  (sIx 1 t1 t25).bind fun t59=>
  (sLd false 1 t59 m_3).bind fun t60=>
  (sAdd t56 t60).bind fun t61=>
  (sIx 1 t6 t54).bind fun t62=>
  sSt 1 t62 t61 m_3 fun m_4=>
  (sIx 1 t1 t25).bind fun t66=>
  (sLd false 1 t66 m_4).bind fun t67=>
  (sFA 2 t9).bind fun t68=>
  (sLd false 1 t68 m_4).bind fun t69=>
  (sMul t67 t69).bind fun t70=>
  (sAdd t7 t70).bind fun t71=>
  (sAdd t25 (I 1)).bind fun t72=>
  rec0 t1 t6 t71 t23 t24 t72 m_4 (fc+54)))
  (x59 call hs u t6 t7 m (fc+1))
noncomputable def x6o (call:x1lo) (hs:FHs) (u:Nat):Nat→AV→AV→AV→AV→AV→AV→Mem→Nat→O2
 | 0=>fun _ _ _ _ _ _ _ _=>none
 | n+1=>fun t1 t6 t7 t23 t24 t25 m fc=>xlj call hs u (x6o call hs u n) t1 t6 t7 t23 t24 t25 m fc
noncomputable def xgi (call:x1lo) (hs:FHs) (u:Nat) (t1 t2 t6 t7:AV) (m:Mem) (fc:Nat):O2:=
 (sFA 0 t2).bind fun t21=>
  (sFA 1 t21).bind fun t22=>
  (sLd false 1 t22 m).bind fun t23=>
  (sLen Try.prog x6 t23).bind fun t24=>
  x6o call hs u NN t1 t6 t7 t23 t24 (I 0) m (fc+5)
noncomputable def xlk (call:x1lo) (hs:FHs) (u:Nat) (t0 t1:AV) (m:Mem) (fc:Nat):O2:=
 sBox t0 (u,fc,2) m fun t2 m_5=>
  (sLen Try.prog x4 t1).bind fun t11=>
  (sFA 0 t2).bind fun t12=>
  (sFA 1 t12).bind fun t13=>
  (sLd false 1 t13 m_5).bind fun t14=>
  (sLen Try.prog x6 t14).bind fun t15=>
  (sNe t11 t15).bind fun t16=>
  x1lr t16
  (some (AV.tup [(I 0),(I 10)],m_5))
  ((sFA 0 t2).bind fun t17=>
  (sFA 0 t17).bind fun t18=>
  (sLd false 1 t18 m_5).bind fun t19=>
  x1mr x1mc 1 8 t19 t19 (u,fc+13,20) m_5 fun t20 m_6=>
  xgi call hs u t1 t2 t20 (I 0) m_6 (fc+16))
noncomputable def xll (call:x1lo) (hs:FHs) (u:Nat) (t0 t1:AV) (m:Mem) (fc:Nat):O2:=
 sBox t0 (u,fc,2) m fun t2 m_1=>
  (sFA 0 t2).bind fun t6=>
  (sLd false 1 t6 m_1).bind fun t7=>
  (sFA 1 t2).bind fun t8=>
  (sLd false 1 t8 m_1).bind fun t9=>
  (sFA 2 t2).bind fun t10=>
  (sLd false 1 t10 m_1).bind fun t11=>
  (sLen Try.prog x4 t11).bind fun t12=>
  (x1lq call x5o [t7,t9,t12] m_1).bind fun p13=>
  (sNe p13.1 (I 0)).bind fun t15=>
  x1lr t15
  (some (p13.1,p13.2))
  ((sLd true 3 t2 p13.2).bind fun t17=>
  (x1lq call x5p [t17,t1] p13.2).bind fun p19=>
  some (p19.1,p19.2))
noncomputable def xlm (call:x1lo) (hs:FHs) (u:Nat) (t0 t1 t2:AV) (m:Mem) (fc:Nat):O2:=
 (sSub t1 t2).bind fun t9=>
  (x1lq call x2s [t9] m).bind fun p10=>
  (sEq p10.1 t0).bind fun t12=>
  (bif sW t12 true then some (t1,p10.2) else some (U,p10.2)).bind fun p14=>
  (bif sW t12 true then some (t0,p14.2) else some (U,p14.2)).bind fun p15=>
  (bif sW t12 true then (sRem p14.1 p15.1).bind fun v=>some (v,p15.2) else some (U,p15.2)).bind fun p16=>
  (bif sW t12 true then some (t2,p16.2) else some (U,p16.2)).bind fun p17=>
  (bif sW t12 true then some (t0,p17.2) else some (U,p17.2)).bind fun p18=>
  (bif sW t12 true then (sRem p17.1 p18.1).bind fun v=>some (v,p18.2) else some (U,p18.2)).bind fun p19=>
  (bif sW t12 true then (sEq p16.1 p19.1).bind fun v=>some (v,p19.2) else some (U,p19.2)).bind fun p20=>
  (x1lx t12 p20.1 (B false)).bind fun t21=>
  (bif sW t21 false then some (t1,p20.2) else some (U,p20.2)).bind fun p23=>
  (bif sW t21 false then some (t2,p23.2) else some (U,p23.2)).bind fun p24=>
  (bif sW t21 false then (sSub p23.1 p24.1).bind fun v=>some (v,p24.2) else some (U,p24.2)).bind fun p25=>
  (bif sW t21 false then (x1lq call x2s [p25.1] p25.2).bind fun p=>some (p.1,p.2) else some (U,p25.2)).bind fun p26=>
  (bif sW t21 false then (sEq p26.1 (I 1)).bind fun v=>some (v,p26.2) else some (U,p26.2)).bind fun p27=>
  (bif sW t21 false then some (p27.1,p27.2) else some (U,p27.2)).bind fun p28=>
  (bif sW p28.1 true then some (t1,p28.2) else some (U,p28.2)).bind fun p29=>
  (bif sW p28.1 true then some (t0,p29.2) else some (U,p29.2)).bind fun p30=>
  (bif sW p28.1 true then (sQuo p29.1 p30.1).bind fun v=>some (v,p30.2) else some (U,p30.2)).bind fun p31=>
  (bif sW p28.1 true then some (t2,p31.2) else some (U,p31.2)).bind fun p32=>
  (bif sW p28.1 true then some (t0,p32.2) else some (U,p32.2)).bind fun p33=>
  (bif sW p28.1 true then (sQuo p32.1 p33.1).bind fun v=>some (v,p33.2) else some (U,p33.2)).bind fun p34=>
  (bif sW p28.1 true then (sEq p31.1 p34.1).bind fun v=>some (v,p34.2) else some (U,p34.2)).bind fun p35=>
  (bif sW t21 false then (x1lx p28.1 p35.1 (B false)).bind fun v=>some (v,p35.2) else some (U,p35.2)).bind fun p36=>
  (x1lx t21 (B true) p36.1).bind fun t37=>
  bif (Nat.ble 1 (mkM 0 [t9])&&true)&&true then
  some (t37,p36.2) else none
noncomputable def xbk (call:x1lo) (hs:FHs) (u:Nat) (t0:AV) (m:Mem) (fc:Nat):O2:=
 some (t0,m)
noncomputable def xgj (call:x1lo) (hs:FHs) (u:Nat) (t0:AV) (m:Mem) (fc:Nat):O2:=
 (sGe t0 (I 2048)).bind fun t8=>
  x1lr t8
  ((sSub t0 (I 4096)).bind fun t10=>
  xbk call hs u t10 m (fc+5))
  (xbk call hs u t0 m (fc+2))
noncomputable def xln (call:x1lo) (hs:FHs) (u:Nat) (t0:AV) (m:Mem) (fc:Nat):O2:=
 (sRem t0 (I 4096)).bind fun t4=>
  (sAdd t4 (I 4096)).bind fun t5=>
  (sRem t5 (I 4096)).bind fun t6=>
  xgj call hs u t6 m (fc+6)
noncomputable def xlo (call:x1lo) (hs:FHs) (u:Nat) (t0 t1 t2:AV) (m:Mem) (fc:Nat):O2:=
 sBox t0 (u,fc,3) m fun t3 m_1=>
  (sFA 1 t3).bind fun t8=>
  (sLd false 1 t8 m_1).bind fun t9=>
  (sQuo t1 t9).bind fun t10=>
  (sFA 1 t3).bind fun t12=>
  (sLd false 1 t12 m_1).bind fun t13=>
  (sQuo t2 t13).bind fun t14=>
  (sSub t10 t14).bind fun t15=>
  (x1lq call x29 [t15] m_1).bind fun p16=>
  (sFA 1 t3).bind fun t18=>
  (sLd false 1 t18 p16.2).bind fun t19=>
  (sRem t1 t19).bind fun t20=>
  (sFA 1 t3).bind fun t22=>
  (sLd false 1 t22 p16.2).bind fun t23=>
  (sRem t2 t23).bind fun t24=>
  (sSub t20 t24).bind fun t25=>
  (x1lq call x29 [t25] p16.2).bind fun p26=>
  (sAdd p16.1 p26.1).bind fun t27=>
  (sEq t27 (I 1)).bind fun t28=>
  bif (Nat.ble 1 (mkM 0 [t15])&&true)&&(cAp (some m_1.next) (tR t18) (mkM 0 [t15])&&(cAp (some m_1.next) (tR t22) (mkM 0 [t15])&&true)) then
  some (t28,p26.2) else none
noncomputable def xlp (call:x1lo) (hs:FHs) (u:Nat) (t0 t1 t2:AV) (m:Mem) (fc:Nat):O2:=
 sBox t0 (u,fc,3) m fun t3 m_1=>
  (sLt t2 t1).bind fun t9=>
  x1lr t9
  ((sLd true 3 t3 m_1).bind fun t10=>
  (x1lq call x5s [t10,t2,t1] m_1).bind fun p13=>
  (sNeg p13.1).bind fun t14=>
  some (t14,p13.2))
  ((sFA 2 t3).bind fun t15=>
  (sLd false 1 t15 m_1).bind fun t16=>
  (sIx 1 t16 t2).bind fun t18=>
  (sLd false 1 t18 m_1).bind fun t19=>
  (sFA 2 t3).bind fun t20=>
  (sLd false 1 t20 m_1).bind fun t21=>
  (sIx 1 t21 t1).bind fun t23=>
  (sLd false 1 t23 m_1).bind fun t24=>
  (sSub t19 t24).bind fun t25=>
  (x1lq call x5t [t25] m_1).bind fun p26=>
  some (p26.1,p26.2))
noncomputable def x2j (call:x1lo) (hs:FHs) (u:Nat) (t5:AV) (m:Mem) (fc:Nat):O2:=
 some (t5,m)
noncomputable def xbl (call:x1lo) (hs:FHs) (u:Nat) (rec0:AV→AV→AV→AV→AV→Mem→Nat→O2) (t1 t5 t10 t11 t12:AV) (m:Mem) (fc:Nat):O2:=
 (sAdd t12 (I 1)).bind fun t27=>
  rec0 t1 t5 t10 t11 t27 m (fc+2)
noncomputable def xgk (call:x1lo) (hs:FHs) (u:Nat) (rec0:AV→AV→AV→AV→AV→Mem→Nat→O2) (t1 t5 t10 t11 t12:AV) (m:Mem) (fc:Nat):O2:=
 (sIx 4 t10 t12).bind fun t14=>
  (sLd true 4 t14 m).bind fun t15=>
  x1m5 xb (u,fc+2,7) m fun t7 m_1=>
  sSt 4 t7 t15 m_1 fun m_2=>
  (sLd true 4 t7 m_2).bind fun t17=>
  (x1nk call hs 2 t1 [t17] m_2).bind fun p18=>
  x1lr p18.1
  ((sFA 0 t7).bind fun t20=>
  (sLd false 1 t20 p18.2).bind fun t21=>
  (sFA 1 t7).bind fun t22=>
  (sLd false 1 t22 p18.2).bind fun t23=>
  (x1m4 x8y [(0,1,t21),(1,1,t23)]).bind fun t24=>
  x1ma x8y [(0,2,t24)] 1 2 (u,fc+13,25) p18.2 fun t25 m_3=>
  sApp 2 16 (u,fc+14,26) (elems m_3.get 2 t25) t5 m_3 fun t26 m_4=>
  xbl call hs u rec0 t1 t26 t10 t11 t12 m_4 (fc+16))
  (xbl call hs u rec0 t1 t5 t10 t11 t12 p18.2 (fc+7))
noncomputable def xlq (call:x1lo) (hs:FHs) (u:Nat) (rec0:AV→AV→AV→AV→AV→Mem→Nat→O2) (t1 t5 t10 t11 t12:AV) (m:Mem) (fc:Nat):O2:=
 (sLt t12 t11).bind fun t13=>
  x1lr t13
  (xgk call hs u rec0 t1 t5 t10 t11 t12 m (fc+1))
  (x2j call hs u t5 m (fc+1))
noncomputable def x6p (call:x1lo) (hs:FHs) (u:Nat):Nat→AV→AV→AV→AV→AV→Mem→Nat→O2
 | 0=>fun _ _ _ _ _ _ _=>none
 | n+1=>fun t1 t5 t10 t11 t12 m fc=>xlq call hs u (x6p call hs u n) t1 t5 t10 t11 t12 m fc
noncomputable def xgl (call:x1lo) (hs:FHs) (u:Nat) (t1 t2 t5:AV) (m:Mem) (fc:Nat):O2:=
 (sFA 0 t2).bind fun t8=>
  (sFA 1 t8).bind fun t9=>
  (sLd false 1 t9 m).bind fun t10=>
  (sLen Try.prog x6 t10).bind fun t11=>
  x6p call hs u NN t1 t5 t10 t11 (I 0) m (fc+5)
noncomputable def xlr (call:x1lo) (hs:FHs) (u:Nat) (t0 t1:AV) (m:Mem) (fc:Nat):O2:=
 sBox t0 (u,fc,2) m fun t2 m_5=>
  xgl call hs u t1 t2 nilS m_5 (fc+3)
noncomputable def xgm (call:x1lo) (hs:FHs) (u:Nat) (t0 t1:AV) (m:Mem) (fc:Nat):O2:=
 sBox t0 (u,fc,2) m fun t2 m_1=>
  (sFA 1 t2).bind fun t6=>
  (sLd false 1 t6 m_1).bind fun t7=>
  (sIx 1 t1 t7).bind fun t8=>
  (sLd false 1 t8 m_1).bind fun t9=>
  (sFA 0 t2).bind fun t11=>
  (sLd false 1 t11 m_1).bind fun t12=>
  (sIx 1 t1 t12).bind fun t13=>
  (sLd false 1 t13 m_1).bind fun t14=>
  (sSub t9 t14).bind fun t15=>
  (sFA 2 t2).bind fun t16=>
  (sLd false 1 t16 m_1).bind fun t17=>
  (sAdd t15 t17).bind fun t18=>
  some (t18,m_1)
noncomputable def xbm (call:x1lo) (hs:FHs) (u:Nat) (t0:AV) (m:Mem) (fc:Nat):O2:=
 some (t0,m)
noncomputable def xgn (call:x1lo) (hs:FHs) (u:Nat) (t0 t1:AV) (m:Mem) (fc:Nat):O2:=
 (sLt t0 (I 0)).bind fun t9=>
  x1lr t9
  ((sAdd t0 t1).bind fun t12=>
  xbm call hs u t12 m (fc+6))
  (xbm call hs u t0 m (fc+2))
noncomputable def xls (call:x1lo) (hs:FHs) (u:Nat) (t0 t1:AV) (m:Mem) (fc:Nat):O2:=
 (sRem t0 t1).bind fun t7=>
  xgn call hs u t7 t1 m (fc+5)
noncomputable def xlt (call:x1lo) (hs:FHs) (u:Nat) (t0 t1:AV) (m:Mem) (fc:Nat):O2:=
 sBox t0 (u,fc,2) m fun t2 m_1=>
  (sFA 1 t2).bind fun t6=>
  (sLd false 1 t6 m_1).bind fun t7=>
  (sIx 1 t1 t7).bind fun t8=>
  (sLd false 1 t8 m_1).bind fun t9=>
  (sFA 0 t2).bind fun t11=>
  (sLd false 1 t11 m_1).bind fun t12=>
  (sIx 1 t1 t12).bind fun t13=>
  (sLd false 1 t13 m_1).bind fun t14=>
  (sSub t9 t14).bind fun t15=>
  (sFA 2 t2).bind fun t16=>
  (sLd false 1 t16 m_1).bind fun t17=>
  (sAdd t15 t17).bind fun t18=>
  some (t18,m_1)
noncomputable def xlu (call:x1lo) (hs:FHs) (u:Nat) (t0 t1:AV) (m:Mem) (fc:Nat):O2:=
 sBox t0 (u,fc,2) m fun t2 m_1=>
  (sLd false 1 t1 m_1).bind fun t4=>
  (sFA 0 t2).bind fun t5=>
  (sLd false 1 t5 m_1).bind fun t6=>
  (sIx 1 t4 t6).bind fun t7=>
  (sLd false 1 t7 m_1).bind fun t8=>
  (sLd false 1 t1 m_1).bind fun t9=>
  (sFA 1 t2).bind fun t10=>
  (sLd false 1 t10 m_1).bind fun t11=>
  (sIx 1 t9 t11).bind fun t12=>
  (sLd false 1 t12 m_1).bind fun t13=>
  (sNe t8 t13).bind fun t14=>
  some (t14,m_1)
noncomputable def x4h (call:x1lo) (hs:FHs) (u:Nat) (m:Mem) (fc:Nat):O2:=
 some (AV.tup [(I 0),(I 0)],m)
noncomputable def xbn (call:x1lo) (hs:FHs) (u:Nat) (rec0:AV→AV→AV→AV→Mem→Nat→O2) (t1 t17 t18 t19:AV) (m:Mem) (fc:Nat):O2:=
 (sLt t19 t18).bind fun t20=>
  x1lr t20
  ((sIx 4 t17 t19).bind fun t22=>
  (sLd true 4 t22 m).bind fun t23=>
  x1m5 xb (u,fc+4,5) m fun t5 m_1=>
  sSt 4 t5 t23 m_1 fun m_2=>
  (sFA 0 t5).bind fun t25=>
  (sLd false 1 t25 m_2).bind fun t26=>
  (sFA 0 t1).bind fun t27=>
  (sLd false 1 t27 m_2).bind fun t28=>
  (sSub t28 (I 1)).bind fun t29=>
  (x1lq call xg [t26,(I 0),t29] m_2).bind fun p30=>
  (sNot p30.1).bind fun t31=>
  (bif sW t31 false then (sFA 1 t5).bind fun v=>some (v,p30.2) else some (U,p30.2)).bind fun p33=>
  (bif sW t31 false then (sLd false 1 p33.1 p33.2).bind fun v=>some (v,p33.2) else some (U,p33.2)).bind fun p34=>
  (bif sW t31 false then (sFA 0 t1).bind fun v=>some (v,p34.2) else some (U,p34.2)).bind fun p35=>
  (bif sW t31 false then (sLd false 1 p35.1 p35.2).bind fun v=>some (v,p35.2) else some (U,p35.2)).bind fun p36=>
  (bif sW t31 false then (sSub p36.1 (I 1)).bind fun v=>some (v,p36.2) else some (U,p36.2)).bind fun p37=>
  (bif sW t31 false then (x1lq call xg [p34.1,(I 0),p37.1] p37.2).bind fun p=>some (p.1,p.2) else some (U,p37.2)).bind fun p38=>
  (bif sW t31 false then (sNot p38.1).bind fun v=>some (v,p38.2) else some (U,p38.2)).bind fun p39=>
  (x1lx t31 (B true) p39.1).bind fun t40=>
  x1lr t40
  (some (AV.tup [t19,(I 6)],p39.2))
  ((sFA 0 t5).bind fun t43=>
  (sLd false 1 t43 p39.2).bind fun t44=>
  (sFA 1 t5).bind fun t45=>
  (sLd false 1 t45 p39.2).bind fun t46=>
  (sEq t44 t46).bind fun t47=>
  x1lr t47
  (some (AV.tup [t19,(I 3)],p39.2))
  ((sFA 2 t5).bind fun t50=>
  (sLd false 1 t50 p39.2).bind fun t51=>
  (x1lq call xg [t51,(I (-1000)),(I 1000)] p39.2).bind fun p52=>
  (sNot p52.1).bind fun t53=>
  (bif sW t53 false then (sFA 3 t5).bind fun v=>some (v,p52.2) else some (U,p52.2)).bind fun p55=>
  (bif sW t53 false then (sLd false 1 p55.1 p55.2).bind fun v=>some (v,p55.2) else some (U,p55.2)).bind fun p56=>
  (bif sW t53 false then (x1lq call x3u [p56.1] p56.2).bind fun p=>some (p.1,p.2) else some (U,p56.2)).bind fun p57=>
  (bif sW t53 false then (sNot p57.1).bind fun v=>some (v,p57.2) else some (U,p57.2)).bind fun p58=>
  (x1lx t53 (B true) p58.1).bind fun t59=>
  x1lr t59
  (some (AV.tup [t19,(I 2)],p58.2))
  ((sAdd t19 (I 1)).bind fun t61=>
  rec0 t1 t17 t18 t61 p58.2 (fc+43)))))
  (x4h call hs u m (fc+1))
noncomputable def x3e (call:x1lo) (hs:FHs) (u:Nat):Nat→AV→AV→AV→AV→Mem→Nat→O2
 | 0=>fun _ _ _ _ _ _=>none
 | n+1=>fun t1 t17 t18 t19 m fc=>xbn call hs u (x3e call hs u n) t1 t17 t18 t19 m fc
noncomputable def xbo (call:x1lo) (hs:FHs) (u:Nat) (t1:AV) (m:Mem) (fc:Nat):O2:=
 (sFA 1 t1).bind fun t16=>
  (sLd false 1 t16 m).bind fun t17=>
  (sLen Try.prog x6 t17).bind fun t18=>
  x3e call hs u NN t1 t17 t18 (I 0) m (fc+4)
noncomputable def xgo (call:x1lo) (hs:FHs) (u:Nat) (t0:AV) (m:Mem) (fc:Nat):O2:=
 sBox t0 (u,fc,1) m fun t1 m_3=>
  (sFA 0 t1).bind fun t7=>
  (sLd false 1 t7 m_3).bind fun t8=>
  (x1lq call xg [t8,(I 0),(I 200)] m_3).bind fun p9=>
  (sNot p9.1).bind fun t10=>
  x1lr t10
  (some (AV.tup [(I 0),(I 2)],p9.2))
  ((sFA 1 t1).bind fun t12=>
  (sLd false 1 t12 p9.2).bind fun t13=>
  (sLen Try.prog x6 t13).bind fun t14=>
  (sGt t14 (I 600)).bind fun t15=>
  x1lr t15
  (some (AV.tup [(I 0),(I 8)],p9.2))
  (xbo call hs u t1 p9.2 (fc+13)))
noncomputable def xx (call:x1lo) (hs:FHs) (u:Nat) (t3:AV) (m:Mem) (fc:Nat):O2:=
 some (t3,m)
noncomputable def x1y (call:x1lo) (hs:FHs) (u:Nat) (rec0:AV→AV→AV→AV→Mem→Nat→O2) (t3 t28 t29 t30:AV) (m:Mem) (fc:Nat):O2:=
 (sAdd t30 (I 1)).bind fun t130=>
  rec0 t3 t28 t29 t130 m (fc+2)
noncomputable def x4i (call:x1lo) (hs:FHs) (u:Nat) (rec0:AV→AV→AV→AV→Mem→Nat→O2) (t3 t4 t5 t28 t29 t30:AV) (m:Mem) (fc:Nat):O2:=
 (sNil t3).bind fun t61=>
  (sFA 4 t61).bind fun t62=>
  (sLd false 1 t62 m).bind fun t63=>
  (sFA 0 t5).bind fun t64=>
  (sLd false 1 t64 m).bind fun t65=>
  (sIx 1 t63 t65).bind fun t66=>
  (sLd false 1 t66 m).bind fun t67=>
  (sNil t3).bind fun t69=>
  (sFA 2 t69).bind fun t70=>
  (sLd false 1 t70 m).bind fun t71=>
  (sIx 1 t71 t4).bind fun t73=>
  (sLd false 1 t73 m).bind fun t74=>
  (sSub t67 t74).bind fun t75=>
  (sIx 1 t63 t65).bind fun t76=>
  sSt 1 t76 t75 m fun m_1=>
  (sNil t3).bind fun t78=>
  (sFA 4 t78).bind fun t79=>
  (sLd false 1 t79 m_1).bind fun t80=>
  (sFA 1 t5).bind fun t81=>
  (sLd false 1 t81 m_1).bind fun t82=>
  (sIx 1 t80 t82).bind fun t83=>
  (sLd false 1 t83 m_1).bind fun t84=>
  (sNil t3).bind fun t86=>
  (sFA 2 t86).bind fun t87=>
  (sLd false 1 t87 m_1).bind fun t88=>
  (sIx 1 t88 t4).bind fun t90=>
  (sLd false 1 t90 m_1).bind fun t91=>
  (sAdd t84 t91).bind fun t92=>
  (sIx 1 t80 t82).bind fun t93=>
  sSt 1 t93 t92 m_1 fun m_2=>
  (sNil t3).bind fun t95=>
  (sFA 5 t95).bind fun t96=>
  (sLd false 1 t96 m_2).bind fun t97=>
  (sFA 0 t5).bind fun t98=>
  (sLd false 1 t98 m_2).bind fun t99=>
  (sNil t3).bind fun t101=>
  (sFA 5 t101).bind fun t102=>
  (sLd false 1 t102 m_2).bind fun t103=>
  (sFA 1 t5).bind fun t104=>
  (sLd false 1 t104 m_2).bind fun t105=>
  (sNil t3).bind fun t107=>
  (sFA 5 t107).bind fun t108=>
  (sLd false 1 t108 m_2).bind fun t109=>
  (sFA 0 t5).bind fun t110=>
  (sLd false 1 t110 m_2).bind fun t111=>
  (sIx 1 t109 t111).bind fun t112=>
  (sLd false 1 t112 m_2).bind fun t113=>
  x1ma x1mc [(0,1,t4)] 1 1 (u,fc+57,115) m_2 fun t115 m_3=>
  sApp 1 8 (u,fc+58,116) (elems m_3.get 1 t115) t113 m_3 fun t116 m_4=>
  (sNil t3).bind fun t118=>
  (sFA 5 t118).bind fun t119=>
  (sLd false 1 t119 m_4).bind fun t120=>
  (sFA 1 t5).bind fun t121=>
  (sLd false 1 t121 m_4).bind fun t122=>
  (sIx 1 t120 t122).bind fun t123=>
  (sLd false 1 t123 m_4).bind fun t124=>
  x1ma x1mc [(0,1,t4)] 1 1 (u,fc+68,126) m_4 fun t126 m_5=>
  sApp 1 8 (u,fc+69,127) (elems m_5.get 1 t126) t124 m_5 fun t127 m_6=>
  (sIx 1 t97 t99).bind fun t128=>
  sSt 1 t128 t116 m_6 fun m_7=>
  (sIx 1 t103 t105).bind fun t129=>
  sSt 1 t129 t127 m_7 fun m_8=>
  bif (x1ls (tR t96) (some [],some [(u,fc+57,115)])&&(x1ls (tR t98) (some [],some [(u,fc+57,115)])&&(x1ls (tR t102) (some [],some [(u,fc+57,115)])&&(x1ls (tR t104) (some [],some [(u,fc+57,115)])&&(x1ls (tR t108) (some [],some [(u,fc+57,115)])&&(x1ls (tR t110) (some [],some [(u,fc+57,115)])&&(x1ls (tR t112) (some [],some [(u,fc+57,115)])&&(x1ls (tR t96) (tX t115,tA (u,fc+58,116) t113)&&(x1ls (tR t98) (tX t115,tA (u,fc+58,116) t113)&&(x1ls (tR t102) (tX t115,tA (u,fc+58,116) t113)&&(x1ls (tR t104) (tX t115,tA (u,fc+58,116) t113)&&(x1ls (some [],some [(u,fc+57,115)]) (tR t119)&&(x1ls (tX t115,tA (u,fc+58,116) t113) (tR t119)&&(x1ls (some [],some [(u,fc+57,115)]) (tR t121)&&(x1ls (tX t115,tA (u,fc+58,116) t113) (tR t121)&&(x1ls (some [],some [(u,fc+57,115)]) (tR t123)&&(x1ls (tX t115,tA (u,fc+58,116) t113) (tR t123)&&(x1ls (tR t96) (some [],some [(u,fc+68,126)])&&(x1ls (tR t98) (some [],some [(u,fc+68,126)])&&(x1ls (tR t102) (some [],some [(u,fc+68,126)])&&(x1ls (tR t104) (some [],some [(u,fc+68,126)])&&(x1ls (tR t108) (some [],some [(u,fc+68,126)])&&(x1ls (tR t110) (some [],some [(u,fc+68,126)])&&(x1ls (tR t112) (some [],some [(u,fc+68,126)])&&(x1ls (some [],some [(u,fc+57,115)]) (some [],some [(u,fc+68,126)])&&(x1ls (tX t115,tA (u,fc+58,116) t113) (some [],some [(u,fc+68,126)])&&(x1ls (tR t119) (some [],some [(u,fc+68,126)])&&(x1ls (tR t121) (some [],some [(u,fc+68,126)])&&(x1ls (tR t123) (some [],some [(u,fc+68,126)])&&(x1ls (tR t96) (tX t126,tA (u,fc+69,127) t124)&&(x1ls (tR t98) (tX t126,tA (u,fc+69,127) t124)&&(x1ls (tR t102) (tX t126,tA (u,fc+69,127) t124)&&(x1ls (tR t104) (tX t126,tA (u,fc+69,127) t124)&&(x1ls (tR t104) (tS t128)&&true)))))))))))))))))))))))))))))))))) then
  x1y call hs u rec0 t3 t28 t29 t30 m_8 (fc+74) else none
noncomputable def xbp (call:x1lo) (hs:FHs) (u:Nat) (rec0:AV→AV→AV→AV→Mem→Nat→O2) (t3 t4 t5 t28 t29 t30:AV) (m:Mem) (fc:Nat):O2:=
 (sFA 2 t5).bind fun t36=>
  (sLd false 1 t36 m).bind fun t37=>
  (sGt t37 (I 0)).bind fun t38=>
  x1lr t38
  ((sNil t3).bind fun t40=>
  (sFA 2 t40).bind fun t41=>
  (sLd false 1 t41 m).bind fun t42=>
  (sFA 3 t5).bind fun t44=>
  (sLd false 1 t44 m).bind fun t45=>
  (sIx 1 t42 t4).bind fun t46=>
  sSt 1 t46 t45 m fun m_9=>
  x4i call hs u rec0 t3 t4 t5 t28 t29 t30 m_9 (fc+13))
  ((sFA 2 t5).bind fun t48=>
  (sLd false 1 t48 m).bind fun t49=>
  (sLt t49 (I 0)).bind fun t50=>
  x1lr t50
  ((sNil t3).bind fun t52=>
  (sFA 2 t52).bind fun t53=>
  (sLd false 1 t53 m).bind fun t54=>
  (sFA 3 t5).bind fun t56=>
  (sLd false 1 t56 m).bind fun t57=>
  (sNeg t57).bind fun t58=>
  (sIx 1 t54 t4).bind fun t59=>
  sSt 1 t59 t58 m fun m_10=>
  x4i call hs u rec0 t3 t4 t5 t28 t29 t30 m_10 (fc+18))
  (x4i call hs u rec0 t3 t4 t5 t28 t29 t30 m (fc+8)))
noncomputable def x99 (call:x1lo) (hs:FHs) (u:Nat) (rec0:AV→AV→AV→AV→Mem→Nat→O2) (t3 t28 t29 t30:AV) (m:Mem) (fc:Nat):O2:=
 (sIx 4 t28 t30).bind fun t33=>
  (sLd true 4 t33 m).bind fun t34=>
  x1m5 xb (u,fc+3,5) m fun t5 m_11=>
  sSt 4 t5 t34 m_11 fun m_12=>
  xbp call hs u rec0 t3 t30 t5 t28 t29 t30 m_12 (fc+6)
noncomputable def xbq (call:x1lo) (hs:FHs) (u:Nat) (rec0:AV→AV→AV→AV→Mem→Nat→O2) (t3 t28 t29 t30:AV) (m:Mem) (fc:Nat):O2:=
 (sLt t30 t29).bind fun t31=>
  x1lr t31
  (x99 call hs u rec0 t3 t28 t29 t30 m (fc+1))
  (xx call hs u t3 m (fc+1))
noncomputable def x1z (call:x1lo) (hs:FHs) (u:Nat):Nat→AV→AV→AV→AV→Mem→Nat→O2
 | 0=>fun _ _ _ _ _ _=>none
 | n+1=>fun t3 t28 t29 t30 m fc=>xbq call hs u (x1z call hs u n) t3 t28 t29 t30 m fc
noncomputable def xbr (call:x1lo) (hs:FHs) (u:Nat) (t1 t3:AV) (m:Mem) (fc:Nat):O2:=
 (sFA 0 t1).bind fun t26=>
  (sFA 1 t26).bind fun t27=>
  (sLd false 1 t27 m).bind fun t28=>
  (sLen Try.prog x6 t28).bind fun t29=>
  x1z call hs u NN t3 t28 t29 (I 0) m (fc+5)
noncomputable def xgp (call:x1lo) (hs:FHs) (u:Nat) (t0:AV) (m:Mem) (fc:Nat):O2:=
 sBox t0 (u,fc,1) m fun t1 m_13=>
  (sLd true 2 t1 m_13).bind fun t6=>
  (sFA 0 t1).bind fun t7=>
  (sFA 1 t7).bind fun t8=>
  (sLd false 1 t8 m_13).bind fun t9=>
  (sLen Try.prog x6 t9).bind fun t10=>
  x1mr x1mc 1 8 t10 t10 (u,fc+7,11) m_13 fun t11 m_14=>
  (sFA 0 t1).bind fun t12=>
  (sFA 0 t12).bind fun t13=>
  (sLd false 1 t13 m_14).bind fun t14=>
  x1mr x1mc 1 8 t14 t14 (u,fc+11,15) m_14 fun t15 m_15=>
  (sFA 0 t1).bind fun t16=>
  (sFA 0 t16).bind fun t17=>
  (sLd false 1 t17 m_15).bind fun t18=>
  x1mr x1mc 1 8 t18 t18 (u,fc+15,19) m_15 fun t19 m_16=>
  (sFA 0 t1).bind fun t20=>
  (sFA 0 t20).bind fun t21=>
  (sLd false 1 t21 m_16).bind fun t22=>
  x1mr x16 1 24 t22 t22 (u,fc+19,23) m_16 fun t23 m_17=>
  (x1m4 xlv [(0,2,t6),(2,1,t11),(3,1,t15),(4,1,t19),(5,1,t23)]).bind fun t24=>
  sBox t24 (u,fc+21,25) m_17 fun t25 m_18=>
  bif (x1ls (tR t1) (some [],some [(u,fc+7,11)])&&(x1ls (some [],some [(u,fc+7,11)]) (tR t13)&&(x1ls (tR t1) (some [],some [(u,fc+11,15)])&&(x1ls (tR t8) (some [],some [(u,fc+11,15)])&&(x1ls (some [],some [(u,fc+7,11)]) (some [],some [(u,fc+11,15)])&&(x1ls (some [],some [(u,fc+7,11)]) (tR t17)&&(x1ls (some [],some [(u,fc+11,15)]) (tR t17)&&(x1ls (tR t1) (some [],some [(u,fc+15,19)])&&(x1ls (tR t8) (some [],some [(u,fc+15,19)])&&(x1ls (some [],some [(u,fc+7,11)]) (some [],some [(u,fc+15,19)])&&(x1ls (tR t13) (some [],some [(u,fc+15,19)])&&(x1ls (some [],some [(u,fc+11,15)]) (some [],some [(u,fc+15,19)])&&(x1ls (some [],some [(u,fc+7,11)]) (tR t21)&&(x1ls (some [],some [(u,fc+11,15)]) (tR t21)&&(x1ls (some [],some [(u,fc+15,19)]) (tR t21)&&(x1ls (tR t1) (some [],some [(u,fc+19,23)])&&(x1ls (tR t8) (some [],some [(u,fc+19,23)])&&(x1ls (some [],some [(u,fc+7,11)]) (some [],some [(u,fc+19,23)])&&(x1ls (tR t13) (some [],some [(u,fc+19,23)])&&(x1ls (some [],some [(u,fc+11,15)]) (some [],some [(u,fc+19,23)])&&(x1ls (tR t17) (some [],some [(u,fc+19,23)])&&(x1ls (some [],some [(u,fc+15,19)]) (some [],some [(u,fc+19,23)])&&true)))))))))))))))))))))) then
  xbr call hs u t1 t25 m_18 (fc+23) else none
noncomputable def x4j (call:x1lo) (hs:FHs) (u:Nat) (m:Mem) (fc:Nat):O2:=
 some ((I (-1)),m)
noncomputable def x9a (call:x1lo) (hs:FHs) (u:Nat) (rec0:AV→AV→AV→AV→Mem→Nat→O2) (t0 t1 t7 t8:AV) (m:Mem) (fc:Nat):O2:=
 (sLt t8 t7).bind fun t9=>
  x1lr t9
  ((sIx 1 t0 t8).bind fun t14=>
  (sLd false 1 t14 m).bind fun t15=>
  (x1nk call hs 2 t1 [t15] m).bind fun p16=>
  x1lr p16.1
  (some (t8,p16.2))
  ((sAdd t8 (I 1)).bind fun t18=>
  rec0 t0 t1 t7 t18 p16.2 (fc+11)))
  (x4j call hs u m (fc+1))
noncomputable def x2k (call:x1lo) (hs:FHs) (u:Nat):Nat→AV→AV→AV→AV→Mem→Nat→O2
 | 0=>fun _ _ _ _ _ _=>none
 | n+1=>fun t0 t1 t7 t8 m fc=>x9a call hs u (x2k call hs u n) t0 t1 t7 t8 m fc
noncomputable def xbs (call:x1lo) (hs:FHs) (u:Nat) (t0 t1:AV) (m:Mem) (fc:Nat):O2:=
 (sLen Try.prog x4 t0).bind fun t7=>
  x2k call hs u NN t0 t1 t7 (I 0) m (fc+3)
noncomputable def xgq (call:x1lo) (hs:FHs) (u:Nat) (t0 t1:AV) (m:Mem) (fc:Nat):O2:=
 xbs call hs u t0 t1 m (fc+1)
noncomputable def xgr (call:x1lo) (hs:FHs) (u:Nat) (t0:AV) (m:Mem) (fc:Nat):O2:=
 (sGt t0 (I 0)).bind fun t4=>
  some (t4,m)
noncomputable def xbt (call:x1lo) (hs:FHs) (u:Nat) (rec0:AV→AV→AV→AV→AV→AV→Mem→Nat→O2) (t0 t4 t5 t136 t137 t138:AV) (m:Mem) (fc:Nat):O2:=
 (sLt t138 t137).bind fun t139=>
  x1lr t139
  ((sIx 1 t136 t138).bind fun t141=>
  (sLd false 1 t141 m).bind fun t142=>
  (sNil t0).bind fun t144=>
  (sFA 3 t144).bind fun t145=>
  (sLd false 1 t145 m).bind fun t146=>
  (sIx 1 t146 t138).bind fun t148=>
  (sLd false 1 t148 m).bind fun t149=>
  (sFA 0 t4).bind fun t151=>
  (sLd false 1 t151 m).bind fun t152=>
  (sIx 1 t152 t5).bind fun t154=>
  (sLd false 1 t154 m).bind fun t155=>
  (sMin t142 t155).bind fun t156=>
  (sAdd t149 t156).bind fun t157=>
  (sIx 1 t146 t138).bind fun t158=>
  sSt 1 t158 t157 m fun m_1=>
  (sAdd t138 (I 1)).bind fun t159=>
  rec0 t0 t4 t5 t136 t137 t159 m_1 (fc+25))
  ((some (AV.tup [],m)))
noncomputable def x3f (call:x1lo) (hs:FHs) (u:Nat):Nat→AV→AV→AV→AV→AV→AV→Mem→Nat→O2
 | 0=>fun _ _ _ _ _ _ _ _=>none
 | n+1=>fun t0 t4 t5 t136 t137 t138 m fc=>xbt call hs u (x3f call hs u n) t0 t4 t5 t136 t137 t138 m fc
noncomputable def x3g (call:x1lo) (hs:FHs) (u:Nat) (t0 t1 t4 t5 t8:AV) (m:Mem) (fc:Nat):O2:=
 (sNil t0).bind fun t116=>
  (sFA 4 t116).bind fun t117=>
  (sLd false 1 t117 m).bind fun t118=>
  (sIx 1 t118 t1).bind fun t120=>
  (sLd false 1 t120 m).bind fun t121=>
  (sSub t121 t8).bind fun t123=>
  (sIx 1 t118 t1).bind fun t124=>
  sSt 1 t124 t123 m fun m_2=>
  (sNil t0).bind fun t126=>
  (sFA 4 t126).bind fun t127=>
  (sLd false 1 t127 m_2).bind fun t128=>
  (sIx 1 t128 t5).bind fun t130=>
  (sLd false 1 t130 m_2).bind fun t131=>
  (sAdd t131 t8).bind fun t133=>
  (sIx 1 t128 t5).bind fun t134=>
  sSt 1 t134 t133 m_2 fun m_3=>
  (sFA 0 t4).bind fun t135=>
  (sLd false 1 t135 m_3).bind fun t136=>
  (sLen Try.prog x4 t136).bind fun t137=>
  x3f call hs u NN t0 t4 t5 t136 t137 (I 0) m_3 (fc+26)
noncomputable def xbu (call:x1lo) (hs:FHs) (u:Nat) (rec1:AV→AV→AV→AV→AV→AV→Mem→Nat→O2) (t0 t1 t4 t5 t8 t10:AV) (m:Mem) (fc:Nat):O2:=
 (sNe t10 t1).bind fun t87=>
  x1lr t87
  ((sNil t0).bind fun t94=>
  (sFA 2 t94).bind fun t95=>
  (sLd false 1 t95 m).bind fun t96=>
  (sFA 1 t4).bind fun t97=>
  (sLd false 1 t97 m).bind fun t98=>
  (sIx 5 t98 t10).bind fun t100=>
  (sFA 0 t100).bind fun t101=>
  (sLd false 1 t101 m).bind fun t102=>
  (sIx 1 t96 t102).bind fun t103=>
  (sLd false 1 t103 m).bind fun t104=>
  (sFA 1 t4).bind fun t105=>
  (sLd false 1 t105 m).bind fun t106=>
  (sIx 5 t106 t10).bind fun t108=>
  (sFA 2 t108).bind fun t109=>
  (sLd false 1 t109 m).bind fun t110=>
  (sMul t110 t8).bind fun t112=>
  (sAdd t104 t112).bind fun t113=>
  (sIx 1 t96 t102).bind fun t114=>
  sSt 1 t114 t113 m fun m_4=>
  (sFA 2 t4).bind fun t88=>
  (sLd false 1 t88 m_4).bind fun t89=>
  (sIx 1 t89 t10).bind fun t91=>
  (sLd false 1 t91 m_4).bind fun t92=>
  rec1 t0 t1 t4 t5 t8 t92 m_4 (fc+32))
  (x3g call hs u t0 t1 t4 t5 t8 m (fc+3))
noncomputable def x3h (call:x1lo) (hs:FHs) (u:Nat):Nat→AV→AV→AV→AV→AV→AV→Mem→Nat→O2
 | 0=>fun _ _ _ _ _ _ _ _=>none
 | n+1=>fun t0 t1 t4 t5 t8 t10 m fc=>xbu call hs u (x3h call hs u n) t0 t1 t4 t5 t8 t10 m fc
noncomputable def x2l (call:x1lo) (hs:FHs) (u:Nat) (t0 t1 t4 t5 t8:AV) (m:Mem) (fc:Nat):O2:=
 x3h call hs u NN t0 t1 t4 t5 t8 t5 m (fc+2)
noncomputable def xbv (call:x1lo) (hs:FHs) (u:Nat) (rec2:AV→AV→AV→AV→AV→AV→Mem→Nat→O2) (t0 t1 t4 t5 t8 t9:AV) (m:Mem) (fc:Nat):O2:=
 (sNe t9 t1).bind fun t70=>
  x1lr t70
  ((sFA 1 t4).bind fun t77=>
  (sLd false 1 t77 m).bind fun t78=>
  (sIx 5 t78 t9).bind fun t80=>
  (sFA 3 t80).bind fun t81=>
  (sLd false 1 t81 m).bind fun t82=>
  (sMin t8 t82).bind fun t83=>
  (sFA 2 t4).bind fun t71=>
  (sLd false 1 t71 m).bind fun t72=>
  (sIx 1 t72 t9).bind fun t74=>
  (sLd false 1 t74 m).bind fun t75=>
  rec2 t0 t1 t4 t5 t83 t75 m (fc+18))
  (x2l call hs u t0 t1 t4 t5 t8 m (fc+3))
noncomputable def x3i (call:x1lo) (hs:FHs) (u:Nat):Nat→AV→AV→AV→AV→AV→AV→Mem→Nat→O2
 | 0=>fun _ _ _ _ _ _ _ _=>none
 | n+1=>fun t0 t1 t4 t5 t8 t9 m fc=>xbv call hs u (x3i call hs u n) t0 t1 t4 t5 t8 t9 m fc
noncomputable def xbw (call:x1lo) (hs:FHs) (u:Nat) (t0 t1 t4 t5 t8:AV) (m:Mem) (fc:Nat):O2:=
 x3i call hs u NN t0 t1 t4 t5 t8 t5 m (fc+2)
noncomputable def x1i (call:x1lo) (hs:FHs) (u:Nat) (t0 t1 t4 t5:AV) (m:Mem) (fc:Nat):O2:=
 (sNil t0).bind fun t52=>
  (sFA 4 t52).bind fun t53=>
  (sLd false 1 t53 m).bind fun t54=>
  (sIx 1 t54 t1).bind fun t56=>
  (sLd false 1 t56 m).bind fun t57=>
  (sNil t0).bind fun t59=>
  (sFA 4 t59).bind fun t60=>
  (sLd false 1 t60 m).bind fun t61=>
  (sIx 1 t61 t5).bind fun t63=>
  (sLd false 1 t63 m).bind fun t64=>
  (sNeg t64).bind fun t65=>
  (sMin t57 t65).bind fun t66=>
  xbw call hs u t0 t1 t4 t5 t66 m (fc+17)
noncomputable def x3j (call:x1lo) (hs:FHs) (u:Nat) (rec3:AV→AV→AV→AV→AV→AV→AV→Mem→Nat→O2) (t0 t1 t4 t5 t17 t18 t19:AV) (m:Mem) (fc:Nat):O2:=
 (sAdd t19 (I 1)).bind fun t50=>
  rec3 t0 t1 t4 t5 t17 t18 t50 m (fc+2)
noncomputable def x9b (call:x1lo) (hs:FHs) (u:Nat) (rec3:AV→AV→AV→AV→AV→AV→AV→Mem→Nat→O2) (t0 t1 t4 t5 t17 t18 t19:AV) (m:Mem) (fc:Nat):O2:=
 (sIx 1 t17 t19).bind fun t22=>
  (sLd false 1 t22 m).bind fun t23=>
  (sNil t0).bind fun t25=>
  (sFA 4 t25).bind fun t26=>
  (sLd false 1 t26 m).bind fun t27=>
  (sIx 1 t27 t19).bind fun t29=>
  (sLd false 1 t29 m).bind fun t30=>
  (sLt t30 (I 0)).bind fun t31=>
  (bif sW t31 true then some (t23,m) else some (U,m)).bind fun p33=>
  (bif sW t31 true then (sLt p33.1 (I 1152921504606846976)).bind fun v=>some (v,p33.2) else some (U,p33.2)).bind fun p34=>
  (x1lx t31 p34.1 (B false)).bind fun t35=>
  (bif sW t35 true then some (t5,p34.2) else some (U,p34.2)).bind fun p37=>
  (bif sW t35 true then (sLt p37.1 (I 0)).bind fun v=>some (v,p37.2) else some (U,p37.2)).bind fun p38=>
  (bif sW t35 true then some (p38.1,p38.2) else some (U,p38.2)).bind fun p39=>
  (bif sW p39.1 false then some (t23,p39.2) else some (U,p39.2)).bind fun p40=>
  (bif sW p39.1 false then (sFA 0 t4).bind fun v=>some (v,p40.2) else some (U,p40.2)).bind fun p41=>
  (bif sW p39.1 false then (sLd false 1 p41.1 p41.2).bind fun v=>some (v,p41.2) else some (U,p41.2)).bind fun p42=>
  (bif sW p39.1 false then some (t5,p42.2) else some (U,p42.2)).bind fun p43=>
  (bif sW p39.1 false then (sIx 1 p42.1 p43.1).bind fun v=>some (v,p43.2) else some (U,p43.2)).bind fun p44=>
  (bif sW p39.1 false then (sLd false 1 p44.1 p44.2).bind fun v=>some (v,p44.2) else some (U,p44.2)).bind fun p45=>
  (bif sW p39.1 false then (sLt p40.1 p45.1).bind fun v=>some (v,p45.2) else some (U,p45.2)).bind fun p46=>
  (bif sW t35 true then (x1lx p39.1 (B true) p46.1).bind fun v=>some (v,p46.2) else some (U,p46.2)).bind fun p47=>
  (x1lx t35 p47.1 (B false)).bind fun t48=>
  x1lr t48
  (x3j call hs u rec3 t0 t1 t4 t19 t17 t18 t19 p47.2 (fc+32))
  (x3j call hs u rec3 t0 t1 t4 t5 t17 t18 t19 p47.2 (fc+30))
noncomputable def x9c (call:x1lo) (hs:FHs) (u:Nat) (rec3:AV→AV→AV→AV→AV→AV→AV→Mem→Nat→O2) (t0 t1 t4 t5 t17 t18 t19:AV) (m:Mem) (fc:Nat):O2:=
 (sLt t19 t18).bind fun t20=>
  x1lr t20
  (x9b call hs u rec3 t0 t1 t4 t5 t17 t18 t19 m (fc+1))
  (x1i call hs u t0 t1 t4 t5 m (fc+1))
noncomputable def x2m (call:x1lo) (hs:FHs) (u:Nat):Nat→AV→AV→AV→AV→AV→AV→AV→Mem→Nat→O2
 | 0=>fun _ _ _ _ _ _ _ _ _=>none
 | n+1=>fun t0 t1 t4 t5 t17 t18 t19 m fc=>x9c call hs u (x2m call hs u n) t0 t1 t4 t5 t17 t18 t19 m fc
noncomputable def xbx (call:x1lo) (hs:FHs) (u:Nat) (t0 t1 t4 t5:AV) (m:Mem) (fc:Nat):O2:=
 (sFA 0 t4).bind fun t16=>
  (sLd false 1 t16 m).bind fun t17=>
  (sLen Try.prog x4 t17).bind fun t18=>
  x2m call hs u NN t0 t1 t4 t5 t17 t18 (I 0) m (fc+4)
noncomputable def xgs (call:x1lo) (hs:FHs) (u:Nat) (t0 t1:AV) (m:Mem) (fc:Nat):O2:=
 (x1pa call x1c [t0,t1] m).bind fun p15=>
  x1m5 x6k (u,fc+3,4) p15.2 fun t4 m_5=>
  sSt 3 t4 p15.1 m_5 fun m_6=>
  xbx call hs u t0 t1 t4 (I (-1)) m_6 (fc+6)
noncomputable def xgt (call:x1lo) (hs:FHs) (u:Nat) (t0:AV) (m:Mem) (fc:Nat):O2:=
 (sNeg t0).bind fun t5=>
  (sMax t0 t5).bind fun t6=>
  some (t6,m)
noncomputable def xlw (call:x1lo) (hs:FHs) (u:Nat) (t0 t1:AV) (m:Mem) (fc:Nat):O2:=
 sBox t0 (u,fc,2) m fun t2 m_1=>
  sBox t1 (u,fc+1,3) m_1 fun t3 m_2=>
  some ((AV.clo x8o [t3,t2]),m_2)
noncomputable def xlx (call:x1lo) (hs:FHs) (u:Nat) (t0:AV) (m:Mem) (fc:Nat):O2:=
 (x1lq call x5 [t0,(I (-2048)),(I 2047)] m).bind fun p4=>
  some (p4.1,p4.2)
noncomputable def xly (call:x1lo) (hs:FHs) (u:Nat) (t0 t1:AV) (m:Mem) (fc:Nat):O2:=
 (x1lq call x2r [t0] m).bind fun p5=>
  (sNot p5.1).bind fun t6=>
  (bif sW t6 true then (sLd false 1 t1 p5.2).bind fun v=>some (v,p5.2) else some (U,p5.2)).bind fun p8=>
  (bif sW t6 true then some (t0,p8.2) else some (U,p8.2)).bind fun p9=>
  (bif sW t6 true then (x1nk call hs 2 p8.1 [p9.1] p9.2).bind fun p=>some (p.1,p.2) else some (U,p9.2)).bind fun p10=>
  (bif sW t6 true then (sNot p10.1).bind fun v=>some (v,p10.2) else some (U,p10.2)).bind fun p11=>
  (x1lx t6 p11.1 (B false)).bind fun t12=>
  some (t12,p11.2)
noncomputable def xby (call:x1lo) (hs:FHs) (u:Nat) (t0:AV) (m:Mem) (fc:Nat):O2:=
 some (t0,m)
noncomputable def xbz (call:x1lo) (hs:FHs) (u:Nat) (t0 t1:AV) (m:Mem) (fc:Nat):O2:=
 (x1q1 Try.prog .cap #[x4] x1n3 [t0]).bind fun t10=>
  (sLen Try.prog x4 t0).bind fun t12=>
  (sSub t10 t12).bind fun t13=>
  (sSub t1 t13).bind fun t14=>
  (sGt t14 (I 0)).bind fun t16=>
  x1lr t16
  ((x1q1 Try.prog .cap #[x4] x1n3 [t0]).bind fun t19=>
  (x1o8 Try.prog x4 t0 none (some t19)).bind fun t20=>
  sApp 1 8 (u,fc+15,22) (sMore x1mc 1 8 t14) t20 m fun t22 m_1=>
  (sLen Try.prog x4 t0).bind fun t24=>
  (x1o8 Try.prog x4 t22 none (some t24)).bind fun t25=>
  xby call hs u t25 m_1 (fc+20))
  (xby call hs u t0 m (fc+10))
noncomputable def xgu (call:x1lo) (hs:FHs) (u:Nat) (t0 t1:AV) (m:Mem) (fc:Nat):O2:=
 (sLt t1 (I 0)).bind fun t6=>
  x1lr t6
  (none)
  (xbz call hs u t0 t1 m (fc+2))
noncomputable def xlz (call:x1lo) (hs:FHs) (u:Nat) (t0 t1:AV) (m:Mem) (fc:Nat):O2:=
 xgu call hs u t0 t1 m (fc+1)
noncomputable def xm0 (call:x1lo) (hs:FHs) (u:Nat) (t0:AV) (m:Mem) (fc:Nat):O2:=
 (sAdd t0 (I 2048)).bind fun t4=>
  (x1lq call x8b [t4,(I 4096)] m).bind fun p5=>
  (sSub p5.1 (I 2048)).bind fun t6=>
  some (t6,p5.2)
noncomputable def xp (call:x1lo) (hs:FHs) (u:Nat) (t5:AV) (m:Mem) (fc:Nat):O2:=
 (sLd false 1 t5 m).bind fun t44=>
  some (t44,m)
noncomputable def xy (call:x1lo) (hs:FHs) (u:Nat) (rec0:AV→AV→AV→AV→AV→Mem→Nat→O2) (t1 t5 t6 t14 t15:AV) (m:Mem) (fc:Nat):O2:=
 (sAdd t15 (I 1)).bind fun t43=>
  rec0 t1 t5 t6 t14 t43 m (fc+2)
noncomputable def x4k (call:x1lo) (hs:FHs) (u:Nat) (rec0:AV→AV→AV→AV→AV→Mem→Nat→O2) (t1 t5 t6 t14 t15:AV) (m:Mem) (fc:Nat):O2:=
 (sLd false 1 t6 m).bind fun t41=>
  (sAdd t41 (I 1)).bind fun t42=>
  sSt 1 t6 t42 m fun m_1=>
  xy call hs u rec0 t1 t5 t6 t14 t15 m_1 (fc+3)
noncomputable def x9d (call:x1lo) (hs:FHs) (u:Nat) (rec0:AV→AV→AV→AV→AV→Mem→Nat→O2) (rec1:AV→AV→AV→AV→AV→AV→Mem→Nat→O2) (t1 t5 t6 t8 t14 t15:AV) (m:Mem) (fc:Nat):O2:=
 (sLd false 1 t8 m).bind fun t29=>
  (sLen Try.prog x4 t29).bind fun t30=>
  (sGt t30 (I 0)).bind fun t31=>
  x1lr t31
  ((sLd false 1 t8 m).bind fun t32=>
  (sIx 1 t32 (I 0)).bind fun t33=>
  (sLd false 1 t33 m).bind fun t34=>
  (sLd false 1 t8 m).bind fun t35=>
  (x1o8 Try.prog x4 t35 (some (I 1)) none).bind fun t36=>
  sSt 1 t8 t36 m fun m_2=>
  (x1nk call hs 2 t1 [t34,(AV.clo x15 [t5,t6,t8])] m_2).bind fun p40=>
  rec1 t1 t5 t6 t8 t14 t15 p40.2 (fc+14))
  (x4k call hs u rec0 t1 t5 t6 t14 t15 m (fc+3))
noncomputable def x20 (call:x1lo) (hs:FHs) (u:Nat) (rec0:AV→AV→AV→AV→AV→Mem→Nat→O2):Nat→AV→AV→AV→AV→AV→AV→Mem→Nat→O2
 | 0=>fun _ _ _ _ _ _ _ _=>none
 | n+1=>fun t1 t5 t6 t8 t14 t15 m fc=>x9d call hs u rec0 (x20 call hs u rec0 n) t1 t5 t6 t8 t14 t15 m fc
noncomputable def x6q (call:x1lo) (hs:FHs) (u:Nat) (rec0:AV→AV→AV→AV→AV→Mem→Nat→O2) (t1 t5 t6 t14 t15:AV) (m:Mem) (fc:Nat):O2:=
 (sLd false 1 t5 m).bind fun t18=>
  (sIx 1 t18 t15).bind fun t20=>
  (sLd false 1 t20 m).bind fun t21=>
  (sGe t21 (I 0)).bind fun t22=>
  x1lr t22
  (xy call hs u rec0 t1 t5 t6 t14 t15 m (fc+7))
  ((sLd false 1 t5 m).bind fun t23=>
  (sLd false 1 t6 m).bind fun t25=>
  (sIx 1 t23 t15).bind fun t26=>
  sSt 1 t26 t25 m fun m_3=>
  x1ma x1mc [(0,1,t15)] 1 1 (u,fc+13,28) m_3 fun t28 m_4=>
  x1m5 x16 (u,fc+14,8) m_4 fun t8 m_5=>
  sSt 1 t8 t28 m_5 fun m_6=>
  x20 call hs u rec0 NN t1 t5 t6 t8 t14 t15 m_6 (fc+16))
noncomputable def x9e (call:x1lo) (hs:FHs) (u:Nat) (rec0:AV→AV→AV→AV→AV→Mem→Nat→O2) (t1 t5 t6 t14 t15:AV) (m:Mem) (fc:Nat):O2:=
 (sLt t15 t14).bind fun t16=>
  x1lr t16
  (x6q call hs u rec0 t1 t5 t6 t14 t15 m (fc+1))
  (xp call hs u t5 m (fc+1))
noncomputable def x21 (call:x1lo) (hs:FHs) (u:Nat):Nat→AV→AV→AV→AV→AV→Mem→Nat→O2
 | 0=>fun _ _ _ _ _ _ _=>none
 | n+1=>fun t1 t5 t6 t14 t15 m fc=>x9e call hs u (x21 call hs u n) t1 t5 t6 t14 t15 m fc
noncomputable def xc0 (call:x1lo) (hs:FHs) (u:Nat) (t1 t5 t6:AV) (m:Mem) (fc:Nat):O2:=
 (sLd false 1 t5 m).bind fun t13=>
  (sLen Try.prog x4 t13).bind fun t14=>
  x21 call hs u NN t1 t5 t6 t14 (I 0) m (fc+3)
noncomputable def xgv (call:x1lo) (hs:FHs) (u:Nat) (t0 t1:AV) (m:Mem) (fc:Nat):O2:=
 x1ma x1mc [(0,1,(I (-1)))] 1 1 (u,fc+1,10) m fun t10 m_7=>
  (x1o5 call x1o [t10,t0] m_7).bind fun p12=>
  x1m5 x16 (u,fc+4,5) p12.2 fun t5 m_8=>
  sSt 1 t5 p12.1 m_8 fun m_9=>
  x1m5 x1mc (u,fc+6,6) m_9 fun t6 m_10=>
  sSt 1 t6 (I 0) m_10 fun m_11=>
  xc0 call hs u t1 t5 t6 m_11 (fc+8)
noncomputable def xc1 (call:x1lo) (hs:FHs) (u:Nat) (rec0:AV→AV→AV→AV→Mem→Nat→O2) (t1 t10 t11 t12:AV) (m:Mem) (fc:Nat):O2:=
 (sLt t12 t11).bind fun t13=>
  x1lr t13
  ((sIx 1 t10 t12).bind fun t14=>
  (sLd false 1 t14 m).bind fun t15=>
  (x1nk call hs 2 t1 [t15] m).bind fun p18=>
  (sAdd t12 (I 1)).bind fun t19=>
  rec0 t1 t10 t11 t19 p18.2 (fc+9))
  ((some (AV.tup [],m)))
noncomputable def x3k (call:x1lo) (hs:FHs) (u:Nat):Nat→AV→AV→AV→AV→Mem→Nat→O2
 | 0=>fun _ _ _ _ _ _=>none
 | n+1=>fun t1 t10 t11 t12 m fc=>xc1 call hs u (x3k call hs u n) t1 t10 t11 t12 m fc
noncomputable def xc2 (call:x1lo) (hs:FHs) (u:Nat) (t0 t1 t2:AV) (m:Mem) (fc:Nat):O2:=
 (sLd false 1 t2 m).bind fun t7=>
  (sIx 1 t7 t0).bind fun t9=>
  (sLd false 1 t9 m).bind fun t10=>
  (sLen Try.prog x4 t10).bind fun t11=>
  x3k call hs u NN t1 t10 t11 (I 0) m (fc+6)
noncomputable def x6r (call:x1lo) (hs:FHs) (u:Nat) (t2 t5 t7 t10:AV) (m:Mem) (fc:Nat):Option Mem:=
 (sFA 0 t5).bind fun t88=>
  (sLd false 1 t88 m).bind fun t89=>
  (sLd false 1 t7 m).bind fun t90=>
  (sIx 1 t89 t90).bind fun t91=>
  (sLd false 1 t91 m).bind fun t92=>
  (sFA 4 t10).bind fun t93=>
  (sLd false 1 t93 m).bind fun t94=>
  (sAdd t92 t94).bind fun t95=>
  (sLd false 1 t2 m).bind fun t96=>
  (sNil t96).bind fun t97=>
  (sFA 3 t97).bind fun t98=>
  (sLd false 1 t98 m).bind fun t99=>
  (sLd false 1 t7 m).bind fun t100=>
  (sIx 1 t99 t100).bind fun t101=>
  (sLd false 1 t101 m).bind fun t102=>
  (sAdd t95 t102).bind fun t103=>
  (sLd false 1 t2 m).bind fun t104=>
  (sNil t104).bind fun t105=>
  (sFA 3 t105).bind fun t106=>
  (sLd false 1 t106 m).bind fun t107=>
  (sFA 1 t10).bind fun t108=>
  (sLd false 1 t108 m).bind fun t109=>
  (sIx 1 t107 t109).bind fun t110=>
  (sLd false 1 t110 m).bind fun t111=>
  (sSub t103 t111).bind fun t112=>
  (sFA 0 t5).bind fun t114=>
  (sLd false 1 t114 m).bind fun t115=>
  (sFA 1 t10).bind fun t116=>
  (sLd false 1 t116 m).bind fun t117=>
  (sIx 1 t115 t117).bind fun t118=>
  (sLd false 1 t118 m).bind fun t119=>
  (sLt t112 t119).bind fun t120=>
  x1lr t120
  ((sFA 0 t5).bind fun t121=>
  (sLd false 1 t121 m).bind fun t122=>
  (sFA 1 t10).bind fun t123=>
  (sLd false 1 t123 m).bind fun t124=>
  (sFA 1 t5).bind fun t125=>
  (sLd false 1 t125 m).bind fun t126=>
  (sFA 1 t10).bind fun t127=>
  (sLd false 1 t127 m).bind fun t128=>
  (sFA 2 t5).bind fun t129=>
  (sLd false 1 t129 m).bind fun t130=>
  (sFA 1 t10).bind fun t131=>
  (sLd false 1 t131 m).bind fun t132=>
  (sLd true 5 t10 m).bind fun t134=>
  (sLd false 1 t7 m).bind fun t135=>
  (sIx 1 t122 t124).bind fun t136=>
  sSt 1 t136 t112 m fun m_1=>
  (sIx 5 t126 t128).bind fun t137=>
  sSt 5 t137 t134 m_1 fun m_2=>
  (sIx 1 t130 t132).bind fun t138=>
  sSt 1 t138 t135 m_2 fun m_3=>
  bif (x1ls (tR t125) (tS t136)&&(x1ls (tR t127) (tS t136)&&(x1ls (tR t129) (tS t136)&&(x1ls (tR t131) (tS t136)&&(x1ls (tR t10) (tS t136)&&(x1ls (tR t7) (tS t136)&&(x1ls (tR t129) (tS t137)&&(x1ls (tR t131) (tS t137)&&(x1ls (tR t7) (tS t137)&&true))))))))) then
  some m_3 else none)
  (some m)
noncomputable def x5a (call:x1lo) (hs:FHs) (u:Nat) (t2 t5 t7 t87:AV) (m:Mem) (fc:Nat):Option Mem:=
 x1m5 x6s (u,fc,10) m fun t10 m_4=>
  sSt 5 t10 t87 m_4 fun m_5=>
  x6r call hs u t2 t5 t7 t10 m_5 (fc+2)
noncomputable def xc3 (call:x1lo) (hs:FHs) (u:Nat) (rec0:AV→AV→AV→AV→Mem→Nat→O2) (t2 t4 t5 t6 t7 t86:AV) (m:Mem) (fc:Nat):O2:=
 sRng t86 fun g caps=>
 (call (((u,fc,0),fun args m=>bif Nat.beq args.length 1&&true then x5a call hs m.next t2 t5 t7 (args.getD 0 U) ⟨m.hp,m.next+1⟩ 0 else none)::hs) g (.yld (u,fc,0)::caps) m).bind fun p=>rec0 t2 t4 t5 t6 p.2 (fc+1)
noncomputable def xz (call:x1lo) (hs:FHs) (u:Nat) (rec0:AV→AV→AV→AV→Mem→Nat→O2) (t2 t4 t5 t6 t7:AV) (m:Mem) (fc:Nat):O2:=
 (sLd false 1 t7 m).bind fun t78=>
  (sLt t78 (I 0)).bind fun t79=>
  x1lr t79
  ((sLd true 3 t5 m).bind fun t80=>
  sSt 3 t4 t80 m fun m_6=>
  (sLdP true 3 t4 m_6).bind fun r0=>
  some (r0,m_6))
  ((sLd false 1 t7 m).bind fun t82=>
  (sIx 1 t6 t82).bind fun t83=>
  sSt 1 t83 (B true) m fun m_7=>
  (sLd false 1 t2 m_7).bind fun t84=>
  (sLd false 1 t7 m_7).bind fun t85=>
  (call hs x4p [t84,t85] m_7).bind fun p86=>
  xc3 call hs u rec0 t2 t4 t5 t6 t7 p86.1 p86.2 (fc+9))
noncomputable def x3l (call:x1lo) (hs:FHs) (u:Nat) (rec0:AV→AV→AV→AV→Mem→Nat→O2) (rec1:AV→AV→AV→AV→AV→AV→AV→AV→Mem→Nat→O2) (t2 t4 t5 t6 t7 t47 t48 t49:AV) (m:Mem) (fc:Nat):O2:=
 (sAdd t49 (I 1)).bind fun t77=>
  rec1 t2 t4 t5 t6 t7 t47 t48 t77 m (fc+2)
noncomputable def x9f (call:x1lo) (hs:FHs) (u:Nat) (rec0:AV→AV→AV→AV→Mem→Nat→O2) (rec1:AV→AV→AV→AV→AV→AV→AV→AV→Mem→Nat→O2) (t2 t4 t5 t6 t7 t47 t48 t49:AV) (m:Mem) (fc:Nat):O2:=
 (sIx 1 t47 t49).bind fun t52=>
  (sLd false 1 t52 m).bind fun t53=>
  (sIx 1 t6 t49).bind fun t56=>
  (sLd false 1 t56 m).bind fun t57=>
  (sNot t57).bind fun t58=>
  (bif sW t58 true then some (t53,m) else some (U,m)).bind fun p60=>
  (bif sW t58 true then (sLt p60.1 (I 1152921504606846976)).bind fun v=>some (v,p60.2) else some (U,p60.2)).bind fun p61=>
  (x1lx t58 p61.1 (B false)).bind fun t62=>
  (bif sW t62 true then (sLd false 1 t7 p61.2).bind fun v=>some (v,p61.2) else some (U,p61.2)).bind fun p64=>
  (bif sW t62 true then (sLt p64.1 (I 0)).bind fun v=>some (v,p64.2) else some (U,p64.2)).bind fun p65=>
  (bif sW t62 true then some (p65.1,p65.2) else some (U,p65.2)).bind fun p66=>
  (bif sW p66.1 false then some (t53,p66.2) else some (U,p66.2)).bind fun p67=>
  (bif sW p66.1 false then (sFA 0 t5).bind fun v=>some (v,p67.2) else some (U,p67.2)).bind fun p68=>
  (bif sW p66.1 false then (sLd false 1 p68.1 p68.2).bind fun v=>some (v,p68.2) else some (U,p68.2)).bind fun p69=>
  (bif sW p66.1 false then (sLd false 1 t7 p69.2).bind fun v=>some (v,p69.2) else some (U,p69.2)).bind fun p70=>
  (bif sW p66.1 false then (sIx 1 p69.1 p70.1).bind fun v=>some (v,p70.2) else some (U,p70.2)).bind fun p71=>
  (bif sW p66.1 false then (sLd false 1 p71.1 p71.2).bind fun v=>some (v,p71.2) else some (U,p71.2)).bind fun p72=>
  (bif sW p66.1 false then (sLt p67.1 p72.1).bind fun v=>some (v,p72.2) else some (U,p72.2)).bind fun p73=>
  (bif sW t62 true then (x1lx p66.1 (B true) p73.1).bind fun v=>some (v,p73.2) else some (U,p73.2)).bind fun p74=>
  (x1lx t62 p74.1 (B false)).bind fun t75=>
  x1lr t75
  (sSt 1 t7 t49 p74.2 fun m_8=>
  x3l call hs u rec0 rec1 t2 t4 t5 t6 t7 t47 t48 t49 m_8 (fc+29))
  (x3l call hs u rec0 rec1 t2 t4 t5 t6 t7 t47 t48 t49 p74.2 (fc+27))
noncomputable def x9g (call:x1lo) (hs:FHs) (u:Nat) (rec0:AV→AV→AV→AV→Mem→Nat→O2) (rec1:AV→AV→AV→AV→AV→AV→AV→AV→Mem→Nat→O2) (t2 t4 t5 t6 t7 t47 t48 t49:AV) (m:Mem) (fc:Nat):O2:=
 (sLt t49 t48).bind fun t50=>
  x1lr t50
  (x9f call hs u rec0 rec1 t2 t4 t5 t6 t7 t47 t48 t49 m (fc+1))
  (xz call hs u rec0 t2 t4 t5 t6 t7 m (fc+1))
noncomputable def x2n (call:x1lo) (hs:FHs) (u:Nat) (rec0:AV→AV→AV→AV→Mem→Nat→O2):Nat→AV→AV→AV→AV→AV→AV→AV→AV→Mem→Nat→O2
 | 0=>fun _ _ _ _ _ _ _ _ _ _=>none
 | n+1=>fun t2 t4 t5 t6 t7 t47 t48 t49 m fc=>x9g call hs u rec0 (x2n call hs u rec0 n) t2 t4 t5 t6 t7 t47 t48 t49 m fc
noncomputable def xc4 (call:x1lo) (hs:FHs) (u:Nat) (rec0:AV→AV→AV→AV→Mem→Nat→O2) (t2 t4 t5 t6 t7:AV) (m:Mem) (fc:Nat):O2:=
 (sFA 0 t5).bind fun t46=>
  (sLd false 1 t46 m).bind fun t47=>
  (sLen Try.prog x4 t47).bind fun t48=>
  x2n call hs u rec0 NN t2 t4 t5 t6 t7 t47 t48 (I 0) m (fc+4)
noncomputable def xc5 (call:x1lo) (hs:FHs) (u:Nat) (rec0:AV→AV→AV→AV→Mem→Nat→O2) (t2 t4 t5 t6:AV) (m:Mem) (fc:Nat):O2:=
 x1m5 x1mc (u,fc,7) m fun t7 m_9=>
  sSt 1 t7 (I (-1)) m_9 fun m_10=>
  xc4 call hs u rec0 t2 t4 t5 t6 t7 m_10 (fc+2)
noncomputable def x1j (call:x1lo) (hs:FHs) (u:Nat):Nat→AV→AV→AV→AV→Mem→Nat→O2
 | 0=>fun _ _ _ _ _ _=>none
 | n+1=>fun t2 t4 t5 t6 m fc=>xc5 call hs u (x1j call hs u n) t2 t4 t5 t6 m fc
noncomputable def xgw (call:x1lo) (hs:FHs) (u:Nat) (t0 t1:AV) (m:Mem) (fc:Nat):O2:=
 sBox t0 (u,fc,2) m fun t2 m_11=>
  x1m5 x6k (u,fc+1,4) m_11 fun t4 m_12=>
  x1ma x1mc [(0,1,(I 1152921504606846976))] 1 1 (u,fc+2,12) m_12 fun t12 m_13=>
  (sLd false 1 t2 m_13).bind fun t13=>
  (sNil t13).bind fun t14=>
  (sFA 0 t14).bind fun t15=>
  (sFA 0 t15).bind fun t16=>
  (sFA 0 t16).bind fun t17=>
  (sLd false 1 t17 m_13).bind fun t18=>
  (x1o5 call x1o [t12,t18] m_13).bind fun p19=>
  (sLd false 1 t2 p19.2).bind fun t20=>
  (sNil t20).bind fun t21=>
  (sFA 0 t21).bind fun t22=>
  (sFA 0 t22).bind fun t23=>
  (sFA 0 t23).bind fun t24=>
  (sLd false 1 t24 p19.2).bind fun t25=>
  x1mr x6s 5 40 t25 t25 (u,fc+16,26) p19.2 fun t26 m_14=>
  (sLd false 1 t2 m_14).bind fun t27=>
  (sNil t27).bind fun t28=>
  (sFA 0 t28).bind fun t29=>
  (sFA 0 t29).bind fun t30=>
  (sFA 0 t30).bind fun t31=>
  (sLd false 1 t31 m_14).bind fun t32=>
  x1mr x1mc 1 8 t32 t32 (u,fc+23,33) m_14 fun t33 m_15=>
  (x1m4 x6k [(0,1,p19.1),(1,1,t26),(2,1,t33)]).bind fun t34=>
  x1m5 x6k (u,fc+25,5) m_15 fun t5 m_16=>
  sSt 3 t5 t34 m_16 fun m_17=>
  bif (Nat.ble 1 (mkM 1 [t12,t18])&&true)&&(x1ls (some [],some [(u,fc+2,12)]) (tR t2)&&(x1ls (some [],some [(u,fc+2,12)]) (tR t17)&&(x1ls (some [],some [(u,fc+2,12)]) (tR t2)&&(cAp (some m_12.next) (tR t2) (mkM 1 [t12,t18])&&(x1ls (some [],some [(u,fc+2,12)]) (tR t24)&&(cAp (some m_12.next) (tR t24) (mkM 1 [t12,t18])&&(x1ls (some [],some [(u,fc+2,12)]) (some [],some [(u,fc+16,26)])&&(x1ls (tR t2) (some [],some [(u,fc+16,26)])&&(x1ls (tR t17) (some [],some [(u,fc+16,26)])&&(cAp (some m_12.next) (some [],some [(u,fc+16,26)]) (mkM 1 [t12,t18])&&(x1ls (some [],some [(u,fc+2,12)]) (tR t2)&&(cAp (some m_12.next) (tR t2) (mkM 1 [t12,t18])&&(x1ls (some [],some [(u,fc+16,26)]) (tR t2)&&(x1ls (some [],some [(u,fc+2,12)]) (tR t31)&&(cAp (some m_12.next) (tR t31) (mkM 1 [t12,t18])&&(x1ls (some [],some [(u,fc+16,26)]) (tR t31)&&(x1ls (some [],some [(u,fc+2,12)]) (some [],some [(u,fc+23,33)])&&(x1ls (tR t2) (some [],some [(u,fc+23,33)])&&(x1ls (tR t17) (some [],some [(u,fc+23,33)])&&(cAp (some m_12.next) (some [],some [(u,fc+23,33)]) (mkM 1 [t12,t18])&&(x1ls (tR t2) (some [],some [(u,fc+23,33)])&&(x1ls (tR t24) (some [],some [(u,fc+23,33)])&&(x1ls (some [],some [(u,fc+16,26)]) (some [],some [(u,fc+23,33)])&&(x1ls (some [],some [(u,fc+2,12)]) (some [],some [(u,fc+25,5)])&&(x1ls (tR t2) (some [],some [(u,fc+25,5)])&&(x1ls (tR t17) (some [],some [(u,fc+25,5)])&&(cAp (some m_12.next) (some [],some [(u,fc+25,5)]) (mkM 1 [t12,t18])&&(x1ls (tR t2) (some [],some [(u,fc+25,5)])&&(x1ls (tR t24) (some [],some [(u,fc+25,5)])&&(x1ls (some [],some [(u,fc+16,26)]) (some [],some [(u,fc+25,5)])&&(x1ls (tR t2) (some [],some [(u,fc+25,5)])&&(x1ls (tR t31) (some [],some [(u,fc+25,5)])&&(x1ls (some [],some [(u,fc+23,33)]) (some [],some [(u,fc+25,5)])&&true))))))))))))))))))))))))))))))))) then
  (sLd false 1 t2 m_17).bind fun t35=>
  (sNil t35).bind fun t36=>
  (sFA 0 t36).bind fun t37=>
  (sFA 0 t37).bind fun t38=>
  (sFA 0 t38).bind fun t39=>
  (sLd false 1 t39 m_17).bind fun t40=>
  x1mr xm1 1 1 t40 t40 (u,fc+33,41) m_17 fun t41 m_18=>
  (sFA 0 t5).bind fun t42=>
  (sLd false 1 t42 m_18).bind fun t43=>
  (sIx 1 t43 t1).bind fun t45=>
  sSt 1 t45 (I 0) m_18 fun m_19=>
  x1j call hs u NN t2 t4 t5 t41 m_19 (fc+40) else none
noncomputable def x4l (call:x1lo) (hs:FHs) (u:Nat) (rec0:AV→AV→AV→AV→AV→Mem→Nat→O2) (t0 t1 t3 t9 t10:AV) (m:Mem) (fc:Nat):O2:=
 (sAdd t10 (I 1)).bind fun t52=>
  rec0 t0 t1 t3 t9 t52 m (fc+2)
noncomputable def x5b (call:x1lo) (hs:FHs) (u:Nat) (rec0:AV→AV→AV→AV→AV→Mem→Nat→O2) (t0 t1 t3 t9 t10:AV) (m:Mem) (fc:Nat):O2:=
 (sLd false 1 t3 m).bind fun t13=>
  (sIx 1 t13 t0).bind fun t15=>
  (sLd false 1 t15 m).bind fun t16=>
  (sIx 1 t16 t10).bind fun t18=>
  (sLd false 1 t18 m).bind fun t19=>
  (sLt t19 (I 1152921504606846976)).bind fun t20=>
  (bif sW t20 true then (sLd false 1 t3 m).bind fun v=>some (v,m) else some (U,m)).bind fun p22=>
  (bif sW t20 true then some (t10,p22.2) else some (U,p22.2)).bind fun p23=>
  (bif sW t20 true then (sIx 1 p22.1 p23.1).bind fun v=>some (v,p23.2) else some (U,p23.2)).bind fun p24=>
  (bif sW t20 true then (sLd false 1 p24.1 p24.2).bind fun v=>some (v,p24.2) else some (U,p24.2)).bind fun p25=>
  (bif sW t20 true then some (t0,p25.2) else some (U,p25.2)).bind fun p26=>
  (bif sW t20 true then (sIx 1 p25.1 p26.1).bind fun v=>some (v,p26.2) else some (U,p26.2)).bind fun p27=>
  (bif sW t20 true then (sLd false 1 p27.1 p27.2).bind fun v=>some (v,p27.2) else some (U,p27.2)).bind fun p28=>
  (bif sW t20 true then (sLt p28.1 (I 1152921504606846976)).bind fun v=>some (v,p28.2) else some (U,p28.2)).bind fun p29=>
  (x1lx t20 p29.1 (B false)).bind fun t30=>
  (bif sW t30 true then (sLd false 1 t3 p29.2).bind fun v=>some (v,p29.2) else some (U,p29.2)).bind fun p32=>
  (bif sW t30 true then some (t0,p32.2) else some (U,p32.2)).bind fun p33=>
  (bif sW t30 true then (sIx 1 p32.1 p33.1).bind fun v=>some (v,p33.2) else some (U,p33.2)).bind fun p34=>
  (bif sW t30 true then (sLd false 1 p34.1 p34.2).bind fun v=>some (v,p34.2) else some (U,p34.2)).bind fun p35=>
  (bif sW t30 true then some (t10,p35.2) else some (U,p35.2)).bind fun p36=>
  (bif sW t30 true then (sIx 1 p35.1 p36.1).bind fun v=>some (v,p36.2) else some (U,p36.2)).bind fun p37=>
  (bif sW t30 true then (sLd false 1 p37.1 p37.2).bind fun v=>some (v,p37.2) else some (U,p37.2)).bind fun p38=>
  (bif sW t30 true then (sLd false 1 t3 p38.2).bind fun v=>some (v,p38.2) else some (U,p38.2)).bind fun p39=>
  (bif sW t30 true then some (t10,p39.2) else some (U,p39.2)).bind fun p40=>
  (bif sW t30 true then (sIx 1 p39.1 p40.1).bind fun v=>some (v,p40.2) else some (U,p40.2)).bind fun p41=>
  (bif sW t30 true then (sLd false 1 p41.1 p41.2).bind fun v=>some (v,p41.2) else some (U,p41.2)).bind fun p42=>
  (bif sW t30 true then some (t0,p42.2) else some (U,p42.2)).bind fun p43=>
  (bif sW t30 true then (sIx 1 p42.1 p43.1).bind fun v=>some (v,p43.2) else some (U,p43.2)).bind fun p44=>
  (bif sW t30 true then (sLd false 1 p44.1 p44.2).bind fun v=>some (v,p44.2) else some (U,p44.2)).bind fun p45=>
  (bif sW t30 true then (sAdd p38.1 p45.1).bind fun v=>some (v,p45.2) else some (U,p45.2)).bind fun p46=>
  (bif sW t30 true then (sEq p46.1 (I 0)).bind fun v=>some (v,p46.2) else some (U,p46.2)).bind fun p47=>
  (x1lx t30 p47.1 (B false)).bind fun t48=>
  x1lr t48
  ((x1nk call hs 2 t1 [t10] p47.2).bind fun p51=>
  x4l call hs u rec0 t0 t1 t3 t9 t10 p51.2 (fc+41))
  (x4l call hs u rec0 t0 t1 t3 t9 t10 p47.2 (fc+38))
noncomputable def x5c (call:x1lo) (hs:FHs) (u:Nat) (rec0:AV→AV→AV→AV→AV→Mem→Nat→O2) (t0 t1 t3 t9 t10:AV) (m:Mem) (fc:Nat):O2:=
 (sLt t10 t9).bind fun t11=>
  x1lr t11
  (x5b call hs u rec0 t0 t1 t3 t9 t10 m (fc+1))
  ((some (AV.tup [],m)))
noncomputable def x19 (call:x1lo) (hs:FHs) (u:Nat):Nat→AV→AV→AV→AV→AV→Mem→Nat→O2
 | 0=>fun _ _ _ _ _ _ _=>none
 | n+1=>fun t0 t1 t3 t9 t10 m fc=>x5c call hs u (x19 call hs u n) t0 t1 t3 t9 t10 m fc
noncomputable def xc6 (call:x1lo) (hs:FHs) (u:Nat) (t0 t1 t2 t3:AV) (m:Mem) (fc:Nat):O2:=
 (sFA 0 t2).bind fun t7=>
  (sFA 0 t7).bind fun t8=>
  (sLd false 1 t8 m).bind fun t9=>
  x19 call hs u NN t0 t1 t3 t9 (I 0) m (fc+4)
noncomputable def x10 (call:x1lo) (hs:FHs) (u:Nat) (t5:AV) (m:Mem) (fc:Nat):O2:=
 some (t5,m)
noncomputable def x1a (call:x1lo) (hs:FHs) (u:Nat) (rec0:AV→AV→AV→AV→Mem→Nat→O2) (t1 t2 t5 t6:AV) (m:Mem) (fc:Nat):O2:=
 (sAdd t6 (I 1)).bind fun t14=>
  rec0 t1 t2 t5 t14 m (fc+3)
noncomputable def x5d (call:x1lo) (hs:FHs) (u:Nat) (rec0:AV→AV→AV→AV→Mem→Nat→O2) (t1 t2 t5 t6 t7:AV) (m:Mem) (fc:Nat):O2:=
 (sIx 1 t1 t6).bind fun t47=>
  (sLd false 1 t47 m).bind fun t48=>
  (sFA 3 t7).bind fun t49=>
  (sLd false 1 t49 m).bind fun t50=>
  (sNeg t50).bind fun t51=>
  (sGt t48 t51).bind fun t52=>
  x1lr t52
  ((sFA 1 t7).bind fun t54=>
  (sLd false 1 t54 m).bind fun t55=>
  (sFA 0 t7).bind fun t56=>
  (sLd false 1 t56 m).bind fun t57=>
  (sFA 2 t7).bind fun t59=>
  (sLd false 1 t59 m).bind fun t60=>
  (sNeg t60).bind fun t61=>
  (sFA 3 t7).bind fun t62=>
  (sLd false 1 t62 m).bind fun t63=>
  (sIx 1 t1 t6).bind fun t66=>
  (sLd false 1 t66 m).bind fun t67=>
  (sAdd t63 t67).bind fun t68=>
  (x1m4 x4g [(0,1,t55),(1,1,t57),(2,1,t6),(3,1,(I (-1))),(4,1,t61),(5,1,t68)]).bind fun t69=>
  x1ma x4g [(0,6,t69)] 1 6 (u,fc+25,70) m fun t70 m_1=>
  sApp 6 48 (u,fc+26,71) (elems m_1.get 6 t70) t5 m_1 fun t71 m_2=>
  x1a call hs u rec0 t1 t2 t71 t6 m_2 (fc+28))
  (x1a call hs u rec0 t1 t2 t5 t6 m (fc+8))
noncomputable def x6t (call:x1lo) (hs:FHs) (u:Nat) (rec0:AV→AV→AV→AV→Mem→Nat→O2) (t1 t2 t5 t6 t7:AV) (m:Mem) (fc:Nat):O2:=
 (sIx 1 t1 t6).bind fun t22=>
  (sLd false 1 t22 m).bind fun t23=>
  (sFA 3 t7).bind fun t24=>
  (sLd false 1 t24 m).bind fun t25=>
  (sLt t23 t25).bind fun t26=>
  x1lr t26
  ((sFA 0 t7).bind fun t28=>
  (sLd false 1 t28 m).bind fun t29=>
  (sFA 1 t7).bind fun t30=>
  (sLd false 1 t30 m).bind fun t31=>
  (sFA 2 t7).bind fun t33=>
  (sLd false 1 t33 m).bind fun t34=>
  (sFA 3 t7).bind fun t35=>
  (sLd false 1 t35 m).bind fun t36=>
  (sIx 1 t1 t6).bind fun t39=>
  (sLd false 1 t39 m).bind fun t40=>
  (sSub t36 t40).bind fun t41=>
  (x1m4 x4g [(0,1,t29),(1,1,t31),(2,1,t6),(3,1,(I 1)),(4,1,t34),(5,1,t41)]).bind fun t42=>
  x1ma x4g [(0,6,t42)] 1 6 (u,fc+23,43) m fun t43 m_3=>
  sApp 6 48 (u,fc+24,44) (elems m_3.get 6 t43) t5 m_3 fun t44 m_4=>
  x5d call hs u rec0 t1 t2 t44 t6 t7 m_4 (fc+26))
  (x5d call hs u rec0 t1 t2 t5 t6 t7 m (fc+7))
noncomputable def x9h (call:x1lo) (hs:FHs) (u:Nat) (rec0:AV→AV→AV→AV→Mem→Nat→O2) (t1 t2 t5 t6:AV) (m:Mem) (fc:Nat):O2:=
 (sFA 1 t2).bind fun t15=>
  (sLd false 1 t15 m).bind fun t16=>
  (sIx 4 t16 t6).bind fun t18=>
  (sLd true 4 t18 m).bind fun t19=>
  x1m5 xb (u,fc+5,7) m fun t7 m_5=>
  sSt 4 t7 t19 m_5 fun m_6=>
  x6t call hs u rec0 t1 t2 t5 t6 t7 m_6 (fc+7)
noncomputable def xc7 (call:x1lo) (hs:FHs) (u:Nat) (rec0:AV→AV→AV→AV→Mem→Nat→O2) (t1 t2 t5 t6:AV) (m:Mem) (fc:Nat):O2:=
 (sFA 1 t2).bind fun t9=>
  (sLd false 1 t9 m).bind fun t10=>
  (sLen Try.prog x6 t10).bind fun t11=>
  (sLt t6 t11).bind fun t12=>
  x1lr t12
  (x9h call hs u rec0 t1 t2 t5 t6 m (fc+5))
  (x10 call hs u t5 m (fc+5))
noncomputable def x2o (call:x1lo) (hs:FHs) (u:Nat):Nat→AV→AV→AV→AV→Mem→Nat→O2
 | 0=>fun _ _ _ _ _ _=>none
 | n+1=>fun t1 t2 t5 t6 m fc=>xc7 call hs u (x2o call hs u n) t1 t2 t5 t6 m fc
noncomputable def xc8 (call:x1lo) (hs:FHs) (u:Nat) (t1 t2 t5:AV) (m:Mem) (fc:Nat):O2:=
 x2o call hs u NN t1 t2 t5 (I 0) m (fc+1)
noncomputable def xgx (call:x1lo) (hs:FHs) (u:Nat) (t0 t1:AV) (m:Mem) (fc:Nat):O2:=
 sBox t0 (u,fc,2) m fun t2 m_7=>
  xc8 call hs u t1 t2 nilS m_7 (fc+3)
noncomputable def xm2 (call:x1lo) (hs:FHs) (u:Nat) (t0:AV) (m:Mem) (fc:Nat):O2:=
 (sNe t0 (I 0)).bind fun t4=>
  some (t4,m)
end Go.Ix
