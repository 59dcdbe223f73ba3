import Derived.Test.YtljibmnhhdiakaaFxConst
set_option linter.unusedVariables false
namespace Go.Ix
open Go.Proofs

noncomputable def x44 (call : FCall) (hs : FHs) (u : Nat) (t3 t7 t11 : AV) (m : Mem) (fc : Nat) : Option (AV × Mem) :=
  (sLd true 2 t3 m).bind fun t82 =>
  (sCall0 call x1f [t82] m).bind fun p83 =>
  (sCall0 call x2i [p83.1, t11] p83.2).bind fun p85 =>
  (sExt p85.1 0).bind fun t86 =>
  (sExt p85.1 1).bind fun t87 =>
  (sEq t87 (I 0)).bind fun t89 =>
  (bif sW t89 true then some (t86, p85.2) else some (U, p85.2)).bind fun p91 =>
  (bif sW t89 true then some (t7, p91.2) else some (U, p91.2)).bind fun p92 =>
  (bif sW t89 true then (sEq p91.1 p92.1).bind fun v => some (v, p92.2) else some (U, p92.2)).bind fun p93 =>
  (sPick t89 p93.1 (B false)).bind fun t94 =>
  some (t94, p93.2)
noncomputable def x9i (call : FCall) (hs : FHs) (u : Nat) (rec0 : AV → AV → AV → AV → AV → AV → Mem → Nat → Option (AV × Mem)) (t1 t2 t3 t7 t11 t12 : AV) (m : Mem) (fc : Nat) : Option (AV × Mem) :=
  (sLen Try.prog x6 t1).bind fun t60 =>
  (sLt t12 t60).bind fun t61 =>
  sCond t61
  ((sIx 1 t1 t12).bind fun t66 =>
  (sLd false 1 t66 m).bind fun t67 =>
  (sAdd t67 t2).bind fun t69 =>
  (sCall0 call x15 [t69, (I (-1000000)), (I 1000000)] m).bind fun p70 =>
  (sNot p70.1).bind fun t71 =>
  sCond t71
  (some ((B true), p70.2))
  ((sIx 1 t1 t12).bind fun t75 =>
  (sLd false 1 t75 p70.2).bind fun t76 =>
  (sAdd t76 t2).bind fun t78 =>
  sMkLit z_int [(0, 1, t78)] 1 1 (u, fc + 19, 79) p70.2 fun t79 m_1 =>
  sApp 1 8 (u, fc + 20, 80) (elems m_1.get 1 t79) t11 m_1 fun t80 m_2 =>
  (sAdd t12 (I 1)).bind fun t63 =>
  rec0 t1 t2 t3 t7 t80 t63 m_2 (fc + 25)))
  (x44 call hs u t3 t7 t11 m (fc + 4))
noncomputable def x45 (call : FCall) (hs : FHs) (u : Nat) : Nat → AV → AV → AV → AV → AV → AV → Mem → Nat → Option (AV × Mem)
  | 0 => fun _ _ _ _ _ _ _ _ => none
  | n + 1 => fun t1 t2 t3 t7 t11 t12 m fc => x9i call hs u (x45 call hs u n) t1 t2 t3 t7 t11 t12 m fc
noncomputable def x9j (call : FCall) (hs : FHs) (u : Nat) (t1 t2 t3 t7 t11 : AV) (m : Mem) (fc : Nat) : Option (AV × Mem) :=
  x45 call hs u NN t1 t2 t3 t7 t11 (I 0) m (fc + 1)
noncomputable def x7d (call : FCall) (hs : FHs) (u : Nat) (t1 t2 t3 t7 t8 t9 t10 : AV) (m : Mem) (fc : Nat) : Option (AV × Mem) :=
  (sNe t8 t9).bind fun t45 =>
  (bif sW t45 false then some (t7, m) else some (U, m)).bind fun p47 =>
  (bif sW t45 false then some (t10, p47.2) else some (U, p47.2)).bind fun p48 =>
  (bif sW t45 false then (sNe p47.1 p48.1).bind fun v => some (v, p48.2) else some (U, p48.2)).bind fun p49 =>
  (sPick t45 (B true) p49.1).bind fun t50 =>
  sCond t50
  (some ((B false), p49.2))
  ((sNe t9 (I 0)).bind fun t52 =>
  (bif sW t52 false then some (t2, p49.2) else some (U, p49.2)).bind fun p54 =>
  (bif sW t52 false then (sCall0 call x15 [p54.1, (I (-100)), (I 100)] p54.2).bind fun p => some (p.1, p.2) else some (U, p54.2)).bind fun p55 =>
  (bif sW t52 false then (sNot p55.1).bind fun v => some (v, p55.2) else some (U, p55.2)).bind fun p56 =>
  (sPick t52 (B true) p56.1).bind fun t57 =>
  sCond t57
  (some ((B true), p56.2))
  (x9j call hs u t1 t2 t3 t7 nilS p56.2 (fc + 16)))
noncomputable def x8t (call : FCall) (hs : FHs) (u : Nat) (t1 t2 t3 t7 t8 t9 t10 : AV) (m : Mem) (fc : Nat) : Option (AV × Mem) :=
  (sEq t9 (I 0)).bind fun t36 =>
  sCond t36
  ((sLd true 2 t3 m).bind fun t38 =>
  (sCall0 call x1g [t38, t1] m).bind fun p40 =>
  (sExt p40.1 0).bind fun t41 =>
  (sExt p40.1 1).bind fun t42 =>
  x7d call hs u t1 t2 t3 t7 t8 t42 t41 p40.2 (fc + 10))
  (x7d call hs u t1 t2 t3 t7 t8 t9 t10 m (fc + 2))
noncomputable def xbt (call : FCall) (hs : FHs) (u : Nat) (t0 t1 t2 : AV) (m : Mem) (fc : Nat) : Option (AV × Mem) :=
  sBox t0 (u, fc, 3) m fun t3 m_3 =>
  (sCall0 call x2g [] m_3).bind fun p15 =>
  (sNot p15.1).bind fun t16 =>
  sCond t16
  (some ((B false), p15.2))
  ((sLd true 2 t3 p15.2).bind fun t17 =>
  (sCall0 call xy [t17] p15.2).bind fun p18 =>
  (sNot p18.1).bind fun t19 =>
  (bif sW t19 false then some (t1, p18.2) else some (U, p18.2)).bind fun p21 =>
  (bif sW t19 false then (sLen Try.prog x6 p21.1).bind fun v => some (v, p21.2) else some (U, p21.2)).bind fun p22 =>
  (bif sW t19 false then (sGt p22.1 (I 210)).bind fun v => some (v, p22.2) else some (U, p22.2)).bind fun p23 =>
  (sPick t19 (B true) p23.1).bind fun t24 =>
  sCond t24
  (some ((B true), p23.2))
  ((sLd true 2 t3 p23.2).bind fun t26 =>
  (sCall0 call x1f [t26] p23.2).bind fun p27 =>
  (sCall0 call x29 [t1] p27.2).bind fun p29 =>
  (sCall0 call x2i [p27.1, p29.1] p29.2).bind fun p30 =>
  (sExt p30.1 0).bind fun t31 =>
  (sExt p30.1 1).bind fun t32 =>
  (sLd true 2 t3 p30.2).bind fun t33 =>
  (sCall0 call x2h [t33] p30.2).bind fun p34 =>
  x8t call hs u t1 t2 t3 t31 t32 p34.1 (I 0) p34.2 (fc + 26)))
noncomputable def x6l (call : FCall) (hs : FHs) (args : List AV) (m : Mem) : Option (AV × Mem) :=
  match args with
  | [t0, t1, t2] => xbt call hs m.next t0 t1 t2 ⟨m.hp, m.next + 1⟩ 0
  | _ => none

noncomputable def xbu (call : FCall) (hs : FHs) (u : Nat) (t0 t1 t2 : AV) (m : Mem) (fc : Nat) : Option (AV × Mem) :=
  sBox t0 (u, fc, 3) m fun t3 m_1 =>
  sBox t2 (u, fc + 1, 5) m_1 fun t5 m_2 =>
  (sCall0 call x2g [] m_2).bind fun p15 =>
  (sNot p15.1).bind fun t16 =>
  sCond t16
  (some ((B false), p15.2))
  ((sLd true 2 t3 p15.2).bind fun t17 =>
  (sCall0 call x3z [t17] p15.2).bind fun p18 =>
  (sNot p18.1).bind fun t19 =>
  (bif sW t19 false then some (t1, p18.2) else some (U, p18.2)).bind fun p21 =>
  (bif sW t19 false then (sLen Try.prog x6 p21.1).bind fun v => some (v, p21.2) else some (U, p21.2)).bind fun p22 =>
  (bif sW t19 false then (sGt p22.1 (I 20)).bind fun v => some (v, p22.2) else some (U, p22.2)).bind fun p23 =>
  (sPick t19 (B true) p23.1).bind fun t24 =>
  (bif sW t24 false then (sIxA 2 1 t5 (I 0)).bind fun v => some (v, p23.2) else some (U, p23.2)).bind fun p26 =>
  (bif sW t24 false then (sLd false 1 p26.1 p26.2).bind fun v => some (v, p26.2) else some (U, p26.2)).bind fun p27 =>
  (bif sW t24 false then (sFA 0 t3).bind fun v => some (v, p27.2) else some (U, p27.2)).bind fun p28 =>
  (bif sW t24 false then (sLd false 1 p28.1 p28.2).bind fun v => some (v, p28.2) else some (U, p28.2)).bind fun p29 =>
  (bif sW t24 false then (sSub p29.1 (I 1)).bind fun v => some (v, p29.2) else some (U, p29.2)).bind fun p30 =>
  (bif sW t24 false then (sCall0 call x15 [p27.1, (I 0), p30.1] p30.2).bind fun p => some (p.1, p.2) else some (U, p30.2)).bind fun p31 =>
  (bif sW t24 false then (sNot p31.1).bind fun v => some (v, p31.2) else some (U, p31.2)).bind fun p32 =>
  (sPick t24 (B true) p32.1).bind fun t33 =>
  (bif sW t33 false then (sIxA 2 1 t5 (I 1)).bind fun v => some (v, p32.2) else some (U, p32.2)).bind fun p35 =>
  (bif sW t33 false then (sLd false 1 p35.1 p35.2).bind fun v => some (v, p35.2) else some (U, p35.2)).bind fun p36 =>
  (bif sW t33 false then (sFA 0 t3).bind fun v => some (v, p36.2) else some (U, p36.2)).bind fun p37 =>
  (bif sW t33 false then (sLd false 1 p37.1 p37.2).bind fun v => some (v, p37.2) else some (U, p37.2)).bind fun p38 =>
  (bif sW t33 false then (sSub p38.1 (I 1)).bind fun v => some (v, p38.2) else some (U, p38.2)).bind fun p39 =>
  (bif sW t33 false then (sCall0 call x15 [p36.1, (I 0), p39.1] p39.2).bind fun p => some (p.1, p.2) else some (U, p39.2)).bind fun p40 =>
  (bif sW t33 false then (sNot p40.1).bind fun v => some (v, p40.2) else some (U, p40.2)).bind fun p41 =>
  (sPick t33 (B true) p41.1).bind fun t42 =>
  sCond t42
  (some ((B true), p41.2))
  ((sLd true 2 t3 p41.2).bind fun t44 =>
  (sCall0 call x1f [t44] p41.2).bind fun p45 =>
  (sCall0 call x2s [p45.1] p45.2).bind fun p46 =>
  (sExt p46.1 0).bind fun t47 =>
  (sExt p46.1 1).bind fun t48 =>
  (sExt p46.1 2).bind fun t49 =>
  (sExt p46.1 3).bind fun t50 =>
  (sLd true 2 t3 p46.2).bind fun t52 =>
  (sCall0 call x1f [t52] p46.2).bind fun p53 =>
  (sCall0 call x29 [t1] p53.2).bind fun p55 =>
  (sCall0 call x2i [p53.1, p55.1] p55.2).bind fun p56 =>
  (sExt p56.1 0).bind fun t57 =>
  (sExt p56.1 1).bind fun t58 =>
  (sLd true 2 t3 p56.2).bind fun t60 =>
  (sCall0 call x1f [t60] p56.2).bind fun p61 =>
  (sIxA 2 1 t5 (I 0)).bind fun t62 =>
  (sLd false 1 t62 p61.2).bind fun t63 =>
  (sIxA 2 1 t5 (I 1)).bind fun t64 =>
  (sLd false 1 t64 p61.2).bind fun t65 =>
  (sCall0 call x28 [p61.1, t63, t65] p61.2).bind fun p66 =>
  (sExt p66.1 0).bind fun t67 =>
  (sExt p66.1 1).bind fun t68 =>
  sAlloc x3q (u, fc + 63, 13) p66.2 fun t13 m_3 =>
  sSt 2 t13 t67 m_3 fun m_4 =>
  bif (Nat.ble 1 (mkM 0 [t60]) && true) && (cAp (some p56.2.next) (tR t62) (mkM 0 [t60]) && (cAp (some p56.2.next) (tR t64) (mkM 0 [t60]) && (apartIds (tR t3) (some [], some [(u, fc + 63, 13)]) && (cAp (some p56.2.next) (some [], some [(u, fc + 63, 13)]) (mkM 0 [t60]) && (apartIds (tR t62) (some [], some [(u, fc + 63, 13)]) && (apartIds (tR t64) (some [], some [(u, fc + 63, 13)]) && (cAp (some p56.2.next) (some [], some [(u, fc + 63, 13)]) (mkM 0 [p61.1, t63, t65]) && true))))))) then
  (sNe t50 (I 0)).bind fun t70 =>
  (bif sW t70 false then some (t47, m_4) else some (U, m_4)).bind fun p72 =>
  (bif sW t70 false then (sLen Try.prog x6 p72.1).bind fun v => some (v, p72.2) else some (U, p72.2)).bind fun p73 =>
  (bif sW t70 false then (sFA 0 t3).bind fun v => some (v, p73.2) else some (U, p73.2)).bind fun p74 =>
  (bif sW t70 false then (sLd false 1 p74.1 p74.2).bind fun v => some (v, p74.2) else some (U, p74.2)).bind fun p75 =>
  (bif sW t70 false then (sNe p73.1 p75.1).bind fun v => some (v, p75.2) else some (U, p75.2)).bind fun p76 =>
  (sPick t70 (B true) p76.1).bind fun t77 =>
  sCond t77
  (some ((B false), p76.2))
  ((sNe t68 (I 0)).bind fun t79 =>
  sCond t79
  ((sEq t68 (I 25)).bind fun t81 =>
  some (t81, p76.2))
  ((sIxA 2 1 t5 (I 1)).bind fun t83 =>
  (sLd false 1 t83 p76.2).bind fun t84 =>
  (sIx 1 t47 t84).bind fun t85 =>
  (sLd false 1 t85 p76.2).bind fun t86 =>
  (sIxA 2 1 t5 (I 0)).bind fun t88 =>
  (sLd false 1 t88 p76.2).bind fun t89 =>
  (sIx 1 t47 t89).bind fun t90 =>
  (sLd false 1 t90 p76.2).bind fun t91 =>
  (sSub t86 t91).bind fun t92 =>
  (sFA 0 t13).bind fun t93 =>
  (sLd false 1 t93 p76.2).bind fun t94 =>
  (sFA 1 t13).bind fun t95 =>
  (sLd false 1 t95 p76.2).bind fun t96 =>
  (sCall0 call x15 [t92, t94, t96] p76.2).bind fun p97 =>
  (sNot p97.1).bind fun t98 =>
  sCond t98
  (some ((B false), p97.2))
  ((sNe t58 (I 0)).bind fun t100 =>
  (bif sW t100 false then some (t57, p97.2) else some (U, p97.2)).bind fun p102 =>
  (bif sW t100 false then some (t49, p102.2) else some (U, p102.2)).bind fun p103 =>
  (bif sW t100 false then (sNe p102.1 p103.1).bind fun v => some (v, p103.2) else some (U, p103.2)).bind fun p104 =>
  (sPick t100 (B true) p104.1).bind fun t105 =>
  (bif sW t105 false then some (t1, p104.2) else some (U, p104.2)).bind fun p107 =>
  (bif sW t105 false then (sIxA 2 1 t5 (I 1)).bind fun v => some (v, p107.2) else some (U, p107.2)).bind fun p108 =>
  (bif sW t105 false then (sLd false 1 p108.1 p108.2).bind fun v => some (v, p108.2) else some (U, p108.2)).bind fun p109 =>
  (bif sW t105 false then (sIx 1 p107.1 p109.1).bind fun v => some (v, p109.2) else some (U, p109.2)).bind fun p110 =>
  (bif sW t105 false then (sLd false 1 p110.1 p110.2).bind fun v => some (v, p110.2) else some (U, p110.2)).bind fun p111 =>
  (bif sW t105 false then some (t1, p111.2) else some (U, p111.2)).bind fun p112 =>
  (bif sW t105 false then (sIxA 2 1 t5 (I 0)).bind fun v => some (v, p112.2) else some (U, p112.2)).bind fun p113 =>
  (bif sW t105 false then (sLd false 1 p113.1 p113.2).bind fun v => some (v, p113.2) else some (U, p113.2)).bind fun p114 =>
  (bif sW t105 false then (sIx 1 p112.1 p114.1).bind fun v => some (v, p114.2) else some (U, p114.2)).bind fun p115 =>
  (bif sW t105 false then (sLd false 1 p115.1 p115.2).bind fun v => some (v, p115.2) else some (U, p115.2)).bind fun p116 =>
  (bif sW t105 false then (sSub p111.1 p116.1).bind fun v => some (v, p116.2) else some (U, p116.2)).bind fun p117 =>
  (bif sW t105 false then (sFA 0 t13).bind fun v => some (v, p117.2) else some (U, p117.2)).bind fun p118 =>
  (bif sW t105 false then (sLd false 1 p118.1 p118.2).bind fun v => some (v, p118.2) else some (U, p118.2)).bind fun p119 =>
  (bif sW t105 false then (sFA 1 t13).bind fun v => some (v, p119.2) else some (U, p119.2)).bind fun p120 =>
  (bif sW t105 false then (sLd false 1 p120.1 p120.2).bind fun v => some (v, p120.2) else some (U, p120.2)).bind fun p121 =>
  (bif sW t105 false then (sCall0 call x15 [p117.1, p119.1, p121.1] p121.2).bind fun p => some (p.1, p.2) else some (U, p121.2)).bind fun p122 =>
  (sPick t105 (B true) p122.1).bind fun t123 =>
  some (t123, p122.2)))) else none))
noncomputable def x6m (call : FCall) (hs : FHs) (args : List AV) (m : Mem) : Option (AV × Mem) :=
  match args with
  | [t0, t1, t2] => xbu call hs m.next t0 t1 t2 ⟨m.hp, m.next + 1⟩ 0
  | _ => none

noncomputable def x7e (call : FCall) (hs : FHs) (u : Nat) (t5 t6 t7 t8 : AV) (m : Mem) (fc : Nat) : Option (AV × Mem) :=
  (sEq t6 t7).bind fun t39 =>
  (bif sW t39 true then some (t5, m) else some (U, m)).bind fun p41 =>
  (bif sW t39 true then some (t8, p41.2) else some (U, p41.2)).bind fun p42 =>
  (bif sW t39 true then (sEq p41.1 p42.1).bind fun v => some (v, p42.2) else some (U, p42.2)).bind fun p43 =>
  (sPick t39 p43.1 (B false)).bind fun t44 =>
  some (t44, p43.2)
noncomputable def x8u (call : FCall) (hs : FHs) (u : Nat) (t1 t2 t5 t6 t7 t8 : AV) (m : Mem) (fc : Nat) : Option (AV × Mem) :=
  (sEq t7 (I 0)).bind fun t30 =>
  sCond t30
  ((sLd true 2 t2 m).bind fun t32 =>
  (sCall0 call xl [t32, t1] m).bind fun p34 =>
  (sExt p34.1 0).bind fun t35 =>
  (sExt p34.1 1).bind fun t36 =>
  x7e call hs u t5 t6 t36 t35 p34.2 (fc + 10))
  (x7e call hs u t5 t6 t7 t8 m (fc + 2))
noncomputable def xbv (call : FCall) (hs : FHs) (u : Nat) (t0 t1 : AV) (m : Mem) (fc : Nat) : Option (AV × Mem) :=
  sBox t0 (u, fc, 2) m fun t2 m_1 =>
  (sCall0 call x2g [] m_1).bind fun p9 =>
  (sNot p9.1).bind fun t10 =>
  sCond t10
  (some ((B false), p9.2))
  ((sLd true 2 t2 p9.2).bind fun t11 =>
  (sCall0 call xy [t11] p9.2).bind fun p12 =>
  (sNot p12.1).bind fun t13 =>
  (bif sW t13 false then some (t1, p12.2) else some (U, p12.2)).bind fun p15 =>
  (bif sW t13 false then (sLen Try.prog x6 p15.1).bind fun v => some (v, p15.2) else some (U, p15.2)).bind fun p16 =>
  (bif sW t13 false then (sGt p16.1 (I 20)).bind fun v => some (v, p16.2) else some (U, p16.2)).bind fun p17 =>
  (sPick t13 (B true) p17.1).bind fun t18 =>
  sCond t18
  (some ((B true), p17.2))
  ((sLd true 2 t2 p17.2).bind fun t20 =>
  (sCall0 call x1f [t20] p17.2).bind fun p21 =>
  (sCall0 call x29 [t1] p21.2).bind fun p23 =>
  (sCall0 call x3p [p21.1, p23.1] p23.2).bind fun p24 =>
  (sExt p24.1 0).bind fun t25 =>
  (sExt p24.1 1).bind fun t26 =>
  (sLd true 2 t2 p24.2).bind fun t27 =>
  (sCall0 call x2h [t27] p24.2).bind fun p28 =>
  x8u call hs u t1 t2 t25 t26 p28.1 (I 0) p28.2 (fc + 26)))
noncomputable def x6n (call : FCall) (hs : FHs) (args : List AV) (m : Mem) : Option (AV × Mem) :=
  match args with
  | [t0, t1] => xbv call hs m.next t0 t1 ⟨m.hp, m.next + 1⟩ 0
  | _ => none

noncomputable def xbw (call : FCall) (hs : FHs) (u : Nat) (t0 t1 t2 : AV) (m : Mem) (fc : Nat) : Option (AV × Mem) :=
  sBox t0 (u, fc, 3) m fun t3 m_1 =>
  (sCall0 call x2g [] m_1).bind fun p17 =>
  (sNot p17.1).bind fun t18 =>
  sCond t18
  (some ((B false), p17.2))
  ((sLd true 2 t3 p17.2).bind fun t19 =>
  (sCall0 call x3z [t19] p17.2).bind fun p20 =>
  (sNot p20.1).bind fun t21 =>
  (bif sW t21 false then some (t1, p20.2) else some (U, p20.2)).bind fun p23 =>
  (bif sW t21 false then (sLen Try.prog x6 p23.1).bind fun v => some (v, p23.2) else some (U, p23.2)).bind fun p24 =>
  (bif sW t21 false then (sGt p24.1 (I 20)).bind fun v => some (v, p24.2) else some (U, p24.2)).bind fun p25 =>
  (sPick t21 (B true) p25.1).bind fun t26 =>
  (bif sW t26 false then some (t2, p25.2) else some (U, p25.2)).bind fun p28 =>
  (bif sW t26 false then (sLen Try.prog x6 p28.1).bind fun v => some (v, p28.2) else some (U, p28.2)).bind fun p29 =>
  (bif sW t26 false then (sGt p29.1 (I 20)).bind fun v => some (v, p29.2) else some (U, p29.2)).bind fun p30 =>
  (sPick t26 (B true) p30.1).bind fun t31 =>
  sCond t31
  (some ((B true), p30.2))
  ((sLd true 2 t3 p30.2).bind fun t33 =>
  (sCall0 call x1f [t33] p30.2).bind fun p34 =>
  (sCall0 call x2s [p34.1] p34.2).bind fun p35 =>
  (sExt p35.1 0).bind fun t36 =>
  (sExt p35.1 1).bind fun t37 =>
  (sExt p35.1 2).bind fun t38 =>
  (sExt p35.1 3).bind fun t39 =>
  (sLd true 2 t3 p35.2).bind fun t41 =>
  (sCall0 call x1f [t41] p35.2).bind fun p42 =>
  (sCall0 call x29 [t1] p42.2).bind fun p44 =>
  (sCall0 call x2i [p42.1, p44.1] p44.2).bind fun p45 =>
  (sExt p45.1 0).bind fun t46 =>
  (sExt p45.1 1).bind fun t47 =>
  (sLd true 2 t3 p45.2).bind fun t49 =>
  (sCall0 call x1f [t49] p45.2).bind fun p50 =>
  (sCall0 call x29 [t2] p50.2).bind fun p52 =>
  (sCall0 call x3p [p50.1, p52.1] p52.2).bind fun p53 =>
  (sExt p53.1 0).bind fun t54 =>
  (sExt p53.1 1).bind fun t55 =>
  (sLd true 2 t3 p53.2).bind fun t57 =>
  (sCall0 call x1f [t57] p53.2).bind fun p58 =>
  (sCall0 call x29 [t37] p58.2).bind fun p60 =>
  (sCall0 call x3p [p58.1, p60.1] p60.2).bind fun p61 =>
  (sExt p61.1 0).bind fun t62 =>
  (sExt p61.1 1).bind fun t63 =>
  (sNe t39 (I 0)).bind fun t65 =>
  (bif sW t65 false then some (t63, p61.2) else some (U, p61.2)).bind fun p67 =>
  (bif sW t65 false then (sNe p67.1 (I 0)).bind fun v => some (v, p67.2) else some (U, p67.2)).bind fun p68 =>
  (sPick t65 (B true) p68.1).bind fun t69 =>
  (bif sW t69 false then some (t62, p68.2) else some (U, p68.2)).bind fun p71 =>
  (bif sW t69 false then some (t38, p71.2) else some (U, p71.2)).bind fun p72 =>
  (bif sW t69 false then (sNe p71.1 p72.1).bind fun v => some (v, p72.2) else some (U, p72.2)).bind fun p73 =>
  (sPick t69 (B true) p73.1).bind fun t74 =>
  sCond t74
  (some ((B false), p73.2))
  ((sNe t47 (I 0)).bind fun t76 =>
  (bif sW t76 false then some (t46, p73.2) else some (U, p73.2)).bind fun p78 =>
  (bif sW t76 false then some (t38, p78.2) else some (U, p78.2)).bind fun p79 =>
  (bif sW t76 false then (sGe p78.1 p79.1).bind fun v => some (v, p79.2) else some (U, p79.2)).bind fun p80 =>
  (bif sW t76 false then some (p80.1, p80.2) else some (U, p80.2)).bind fun p81 =>
  (bif sW p81.1 true then some (t55, p81.2) else some (U, p81.2)).bind fun p82 =>
  (bif sW p81.1 true then (sNe p82.1 (I 0)).bind fun v => some (v, p82.2) else some (U, p82.2)).bind fun p83 =>
  (bif sW p81.1 true then some (p83.1, p83.2) else some (U, p83.2)).bind fun p84 =>
  (bif sW p84.1 false then some (t46, p84.2) else some (U, p84.2)).bind fun p85 =>
  (bif sW p84.1 false then some (t54, p85.2) else some (U, p85.2)).bind fun p86 =>
  (bif sW p84.1 false then (sGe p85.1 p86.1).bind fun v => some (v, p86.2) else some (U, p86.2)).bind fun p87 =>
  (bif sW p81.1 true then (sPick p84.1 (B true) p87.1).bind fun v => some (v, p87.2) else some (U, p87.2)).bind fun p88 =>
  (bif sW t76 false then (sPick p81.1 p88.1 (B false)).bind fun v => some (v, p88.2) else some (U, p88.2)).bind fun p89 =>
  (sPick t76 (B true) p89.1).bind fun t90 =>
  (bif sW t90 true then some (t55, p89.2) else some (U, p89.2)).bind fun p92 =>
  (bif sW t90 true then (sNe p92.1 (I 0)).bind fun v => some (v, p92.2) else some (U, p92.2)).bind fun p93 =>
  (bif sW t90 true then some (p93.1, p93.2) else some (U, p93.2)).bind fun p94 =>
  (bif sW p94.1 false then some (t54, p94.2) else some (U, p94.2)).bind fun p95 =>
  (bif sW p94.1 false then some (t38, p95.2) else some (U, p95.2)).bind fun p96 =>
  (bif sW p94.1 false then (sLe p95.1 p96.1).bind fun v => some (v, p96.2) else some (U, p96.2)).bind fun p97 =>
  (bif sW t90 true then (sPick p94.1 (B true) p97.1).bind fun v => some (v, p97.2) else some (U, p97.2)).bind fun p98 =>
  (sPick t90 p98.1 (B false)).bind fun t99 =>
  some (t99, p98.2))))
noncomputable def x6o (call : FCall) (hs : FHs) (args : List AV) (m : Mem) : Option (AV × Mem) :=
  match args with
  | [t0, t1, t2] => xbw call hs m.next t0 t1 t2 ⟨m.hp, m.next + 1⟩ 0
  | _ => none

noncomputable def xk6 (call : FCall) (hs : FHs) (u : Nat) (m : Mem) (fc : Nat) : Option (AV × Mem) :=
  (sCall0 call x53 [(I 2)] m).bind fun p14 =>
  (sCall0 call x2s [p14.1] p14.2).bind fun p15 =>
  (sExt p15.1 0).bind fun t16 =>
  (sExt p15.1 1).bind fun t17 =>
  (sExt p15.1 2).bind fun t18 =>
  (sExt p15.1 3).bind fun t19 =>
  (sCall0 call x53 [(I 2)] p15.2).bind fun p21 =>
  (sCall0 call x28 [p21.1, (I 0), (I 1)] p21.2).bind fun p22 =>
  (sExt p22.1 0).bind fun t23 =>
  (sExt p22.1 1).bind fun t24 =>
  sAlloc x3q (u, fc + 17, 5) p22.2 fun t5 m_1 =>
  sSt 2 t5 t23 m_1 fun m_2 =>
  (sCall0 call x22 [(I 0)] m_2).bind fun p26 =>
  (sCall0 call xj [p26.1] p26.2).bind fun p27 =>
  (sExt p27.1 0).bind fun t28 =>
  (sExt p27.1 1).bind fun t29 =>
  (sExt p27.1 2).bind fun t30 =>
  (sExt p27.1 3).bind fun t31 =>
  sAlloc x55 (u, fc + 27, 7) p27.2 fun t7 m_3 =>
  sSt 3 t7 t28 m_3 fun m_4 =>
  (sCall0 call x22 [(I 1)] m_4).bind fun p33 =>
  (sCall0 call x5x [p33.1] p33.2).bind fun p34 =>
  (sExt p34.1 0).bind fun t35 =>
  (sExt p34.1 1).bind fun t36 =>
  (sEq t19 (I 0)).bind fun t38 =>
  (bif sW t38 true then some (t18, p34.2) else some (U, p34.2)).bind fun p40 =>
  (bif sW t38 true then (sEq p40.1 (I 2)).bind fun v => some (v, p40.2) else some (U, p40.2)).bind fun p41 =>
  (sPick t38 p41.1 (B false)).bind fun t42 =>
  (bif sW t42 true then some (t16, p41.2) else some (U, p41.2)).bind fun p44 =>
  (bif sW t42 true then sMkLit z_int [(0, 1, (I 0)), (1, 1, (I (-1))), (2, 1, (I (-1)))] 3 1 (u, fc + 47, 45) p44.2 fun v m => some (v, m) else some (U, p44.2)).bind fun p45 =>
  (bif sW t42 true then (sCall0 call x1h [p44.1, p45.1] p45.2).bind fun p => some (p.1, p.2) else some (U, p45.2)).bind fun p46 =>
  (sPick t42 p46.1 (B false)).bind fun t47 =>
  (bif sW t47 true then some (t17, p46.2) else some (U, p46.2)).bind fun p49 =>
  (bif sW t47 true then sMkLit z_int [(0, 1, (I 2)), (1, 1, (I 2)), (2, 1, (I 2))] 3 1 (u, fc + 52, 50) p49.2 fun v m => some (v, m) else some (U, p49.2)).bind fun p50 =>
  (bif sW t47 true then (sCall0 call x1h [p49.1, p50.1] p50.2).bind fun p => some (p.1, p.2) else some (U, p50.2)).bind fun p51 =>
  (sPick t47 p51.1 (B false)).bind fun t52 =>
  (bif sW t52 true then some (t24, p51.2) else some (U, p51.2)).bind fun p54 =>
  (bif sW t52 true then (sEq p54.1 (I 0)).bind fun v => some (v, p54.2) else some (U, p54.2)).bind fun p55 =>
  (sPick t52 p55.1 (B false)).bind fun t56 =>
  (bif sW t56 true then (sLd true 2 t5 p55.2).bind fun v => some (v, p55.2) else some (U, p55.2)).bind fun p58 =>
  (bif sW t56 true then (sBuild x3q [(0, 1, (I (-1))), (1, 1, (I (-1)))]).bind fun v => some (v, p58.2) else some (U, p58.2)).bind fun p59 =>
  (bif sW t56 true then (sBin Try.prog .eql x9k (.tmp 58) (.tmp 59) p58.1 p59.1).bind fun v => some (v, p59.2) else some (U, p59.2)).bind fun p60 =>
  (sPick t56 p60.1 (B false)).bind fun t61 =>
  (bif sW t61 true then some (t31, p60.2) else some (U, p60.2)).bind fun p63 =>
  (bif sW t61 true then (sEq p63.1 (I 0)).bind fun v => some (v, p63.2) else some (U, p63.2)).bind fun p64 =>
  (sPick t61 p64.1 (B false)).bind fun t65 =>
  (bif sW t65 true then some (t30, p64.2) else some (U, p64.2)).bind fun p67 =>
  (bif sW t65 true then (sEq p67.1 (I 2)).bind fun v => some (v, p67.2) else some (U, p67.2)).bind fun p68 =>
  (sPick t65 p68.1 (B false)).bind fun t69 =>
  (bif sW t69 true then some (t36, p68.2) else some (U, p68.2)).bind fun p71 =>
  (bif sW t69 true then (sEq p71.1 (I 0)).bind fun v => some (v, p71.2) else some (U, p71.2)).bind fun p72 =>
  (sPick t69 p72.1 (B false)).bind fun t73 =>
  (bif sW t73 true then some (t35, p72.2) else some (U, p72.2)).bind fun p75 =>
  (bif sW t73 true then (sLen Try.prog xti p75.1).bind fun v => some (v, p75.2) else some (U, p75.2)).bind fun p76 =>
  (bif sW t73 true then (sEq p76.1 (I 4)).bind fun v => some (v, p76.2) else some (U, p76.2)).bind fun p77 =>
  (sPick t73 p77.1 (B false)).bind fun t78 =>
  some (t78, p77.2)
noncomputable def x86 (call : FCall) (hs : FHs) (args : List AV) (m : Mem) : Option (AV × Mem) :=
  match args with
  | [] => xk6 call hs m.next ⟨m.hp, m.next + 1⟩ 0
  | _ => none

noncomputable def x46 (call : FCall) (hs : FHs) (u : Nat) (m : Mem) (fc : Nat) : Option (AV × Mem) :=
  some ((B true), m)
noncomputable def x9l (call : FCall) (hs : FHs) (u : Nat) (rec0 : AV → AV → Mem → Nat → Option (AV × Mem)) (t1 t3 : AV) (m : Mem) (fc : Nat) : Option (AV × Mem) :=
  (sFA 1 t1).bind fun t33 =>
  (sLd false 1 t33 m).bind fun t34 =>
  (sLen Try.prog x1c t34).bind fun t35 =>
  (sLt t3 t35).bind fun t36 =>
  sCond t36
  ((sFA 1 t1).bind fun t39 =>
  (sLd false 1 t39 m).bind fun t40 =>
  (sIx 4 t40 t3).bind fun t42 =>
  (sFA 3 t42).bind fun t43 =>
  (sLd false 1 t43 m).bind fun t44 =>
  (sGt t44 (I 20)).bind fun t45 =>
  (bif sW t45 false then (sFA 1 t1).bind fun v => some (v, m) else some (U, m)).bind fun p47 =>
  (bif sW t45 false then (sLd false 1 p47.1 p47.2).bind fun v => some (v, p47.2) else some (U, p47.2)).bind fun p48 =>
  (bif sW t45 false then some (t3, p48.2) else some (U, p48.2)).bind fun p49 =>
  (bif sW t45 false then (sIx 4 p48.1 p49.1).bind fun v => some (v, p49.2) else some (U, p49.2)).bind fun p50 =>
  (bif sW t45 false then (sFA 2 p50.1).bind fun v => some (v, p50.2) else some (U, p50.2)).bind fun p51 =>
  (bif sW t45 false then (sLd false 1 p51.1 p51.2).bind fun v => some (v, p51.2) else some (U, p51.2)).bind fun p52 =>
  (bif sW t45 false then (sCall0 call x40 [p52.1] p52.2).bind fun p => some (p.1, p.2) else some (U, p52.2)).bind fun p53 =>
  (bif sW t45 false then (sGt p53.1 (I 5)).bind fun v => some (v, p53.2) else some (U, p53.2)).bind fun p54 =>
  (sPick t45 (B true) p54.1).bind fun t55 =>
  sCond t55
  (some ((B false), p54.2))
  ((sAdd t3 (I 1)).bind fun t38 =>
  rec0 t1 t38 p54.2 (fc + 25)))
  (x46 call hs u m (fc + 5))
noncomputable def x47 (call : FCall) (hs : FHs) (u : Nat) : Nat → AV → AV → Mem → Nat → Option (AV × Mem)
  | 0 => fun _ _ _ _ => none
  | n + 1 => fun t1 t3 m fc => x9l call hs u (x47 call hs u n) t1 t3 m fc
noncomputable def x9m (call : FCall) (hs : FHs) (u : Nat) (t1 : AV) (m : Mem) (fc : Nat) : Option (AV × Mem) :=
  x47 call hs u NN t1 (I 0) m (fc + 1)
noncomputable def xbx (call : FCall) (hs : FHs) (u : Nat) (t0 : AV) (m : Mem) (fc : Nat) : Option (AV × Mem) :=
  sBox t0 (u, fc, 1) m fun t1 m_1 =>
  (sLd true 2 t1 m_1).bind fun t4 =>
  (sCall0 call x2h [t4] m_1).bind fun p5 =>
  (sNe p5.1 (I 0)).bind fun t6 =>
  sCond t6
  ((sFA 1 t1).bind fun t7 =>
  (sLd false 1 t7 p5.2).bind fun t8 =>
  (sLen Try.prog x1c t8).bind fun t9 =>
  (sLe t9 (I 16)).bind fun t10 =>
  (bif sW t10 false then (sFA 1 t1).bind fun v => some (v, p5.2) else some (U, p5.2)).bind fun p12 =>
  (bif sW t10 false then (sLd false 1 p12.1 p12.2).bind fun v => some (v, p12.2) else some (U, p12.2)).bind fun p13 =>
  (bif sW t10 false then (sLen Try.prog x1c p13.1).bind fun v => some (v, p13.2) else some (U, p13.2)).bind fun p14 =>
  (bif sW t10 false then (sGt p14.1 (I 600)).bind fun v => some (v, p14.2) else some (U, p14.2)).bind fun p15 =>
  (bif sW t10 false then some (p15.1, p15.2) else some (U, p15.2)).bind fun p16 =>
  (bif sW p16.1 true then (sFA 1 t1).bind fun v => some (v, p16.2) else some (U, p16.2)).bind fun p17 =>
  (bif sW p16.1 true then (sLd false 1 p17.1 p17.2).bind fun v => some (v, p17.2) else some (U, p17.2)).bind fun p18 =>
  (bif sW p16.1 true then (sLen Try.prog x1c p18.1).bind fun v => some (v, p18.2) else some (U, p18.2)).bind fun p19 =>
  (bif sW p16.1 true then (sLe p19.1 (I 602)).bind fun v => some (v, p19.2) else some (U, p19.2)).bind fun p20 =>
  (bif sW t10 false then (sPick p16.1 p20.1 (B false)).bind fun v => some (v, p20.2) else some (U, p20.2)).bind fun p21 =>
  (sPick t10 (B true) p21.1).bind fun t22 =>
  some (t22, p21.2))
  ((sFA 0 t1).bind fun t23 =>
  (sLd false 1 t23 p5.2).bind fun t24 =>
  (sGt t24 (I 10)).bind fun t25 =>
  (bif sW t25 false then (sFA 1 t1).bind fun v => some (v, p5.2) else some (U, p5.2)).bind fun p27 =>
  (bif sW t25 false then (sLd false 1 p27.1 p27.2).bind fun v => some (v, p27.2) else some (U, p27.2)).bind fun p28 =>
  (bif sW t25 false then (sLen Try.prog x1c p28.1).bind fun v => some (v, p28.2) else some (U, p28.2)).bind fun p29 =>
  (bif sW t25 false then (sGt p29.1 (I 16)).bind fun v => some (v, p29.2) else some (U, p29.2)).bind fun p30 =>
  (sPick t25 (B true) p30.1).bind fun t31 =>
  sCond t31
  (some ((B false), p30.2))
  (x9m call hs u t1 p30.2 (fc + 14)))
noncomputable def x6p (call : FCall) (hs : FHs) (args : List AV) (m : Mem) : Option (AV × Mem) :=
  match args with
  | [t0] => xbx call hs m.next t0 ⟨m.hp, m.next + 1⟩ 0
  | _ => none

noncomputable def x8v (call : FCall) (hs : FHs) (u : Nat) (t0 : AV) (m : Mem) (fc : Nat) : Option (AV × Mem) :=
  sBox t0 (u, fc, 1) m fun t1 m_1 =>
  (sLd true 2 t1 m_1).bind fun t10 =>
  (sCall0 call x2t [t10] m_1).bind fun p11 =>
  (sExt p11.1 0).bind fun t12 =>
  (sExt p11.1 1).bind fun t13 =>
  sAlloc x2v (u, fc + 10, 6) p11.2 fun t6 m_2 =>
  sSt 2 t6 t12 m_2 fun m_3 =>
  (sNe t13 (I 0)).bind fun t15 =>
  sCond t15
  (some (AV.tup [nilS, nilS, (I 0), t13], m_3))
  ((sLd true 2 t6 m_3).bind fun t17 =>
  (sCall1 call x9 [t17] m_3).bind fun p18 =>
  (sNil p18.1).bind fun t20 =>
  (sFA 3 t20).bind fun t21 =>
  (sLd false 1 t21 p18.2).bind fun t22 =>
  (sNil p18.1).bind fun t24 =>
  (sFA 2 t24).bind fun t25 =>
  (sLd false 1 t25 p18.2).bind fun t26 =>
  (sLd true 2 t6 p18.2).bind fun t27 =>
  (sNil p18.1).bind fun t29 =>
  (sFA 3 t29).bind fun t30 =>
  (sLd false 1 t30 p18.2).bind fun t31 =>
  (sCall3 call xz [t27, t31] p18.2).bind fun p32 =>
  bif (Nat.ble 1 (mkM 3 [t27, t31]) && true) && (cAp none (tR t21) (mkM 3 [t27, t31]) && (cAp none (tR t25) (mkM 3 [t27, t31]) && true)) then
  some (AV.tup [t22, t26, p32.1, (I 0)], p32.2) else none)
noncomputable def x6q (call : FCall) (hs : FHs) (args : List AV) (m : Mem) : Option (AV × Mem) :=
  match args with
  | [t0] => x8v call hs m.next t0 ⟨m.hp, m.next + 1⟩ 0
  | _ => none

noncomputable def x9n (call : FCall) (hs : FHs) (u : Nat) (t0 : AV) (m : Mem) (fc : Nat) : Option (AV × Mem) :=
  sBox t0 (u, fc, 1) m fun t1 m_1 =>
  sAlloc x56 (u, fc + 1, 2) m_1 fun t2 m_2 =>
  (sFA 0 t1).bind fun t3 =>
  (sLd false 1 t3 m_2).bind fun t4 =>
  sMkLit x1o [] 0 4 (u, fc + 4, 5) m_2 fun t5 m_3 =>
  (sFA 1 t1).bind fun t6 =>
  (sLd false 1 t6 m_3).bind fun t7 =>
  sApp 4 32 (u, fc + 7, 8) (elems m_3.get 4 t7) t5 m_3 fun t8 m_4 =>
  (sBuild x56 [(0, 1, t4), (1, 1, t8)]).bind fun t9 =>
  sSt 2 t2 t9 m_4 fun m_5 =>
  bif (apartIds (tR t3) (some [], some [(u, fc + 4, 5)]) && (apartIds (some [], some [(u, fc + 4, 5)]) (tR t6) && (apartIds (tR t3) (tX t7, tA (u, fc + 7, 8) t5) && true))) then
  (sLdP true 2 t2 m_5).bind fun r0 =>
  some (r0, m_5) else none
noncomputable def x5v (call : FCall) (hs : FHs) (args : List AV) (m : Mem) : Option (AV × Mem) :=
  match args with
  | [t0] => x9n call hs m.next t0 ⟨m.hp, m.next + 1⟩ 0
  | _ => none

noncomputable def xby (call : FCall) (hs : FHs) (u : Nat) (t0 : AV) (m : Mem) (fc : Nat) : Option (AV × Mem) :=
  sBox t0 (u, fc, 1) m fun t1 m_1 =>
  (sLd true 2 t1 m_1).bind fun t6 =>
  (sCall0 call x11 [t6] m_1).bind fun p7 =>
  (sExt p7.1 0).bind fun t8 =>
  (sExt p7.1 1).bind fun t9 =>
  some (t9, p7.2)
noncomputable def x6r (call : FCall) (hs : FHs) (args : List AV) (m : Mem) : Option (AV × Mem) :=
  match args with
  | [t0] => xby call hs m.next t0 ⟨m.hp, m.next + 1⟩ 0
  | _ => none

noncomputable def x48 (call : FCall) (hs : FHs) (u : Nat) (t1 t2 : AV) (m : Mem) (fc : Nat) : Option (AV × Mem) :=
  (sLd true 2 t2 m).bind fun t24 =>
  (sCall0 call x1i [t24, t1] m).bind fun p26 =>
  some (AV.tup [p26.1, (I 0)], p26.2)
noncomputable def x9o (call : FCall) (hs : FHs) (u : Nat) (rec0 : AV → AV → AV → Mem → Nat → Option (AV × Mem)) (t1 t2 t6 : AV) (m : Mem) (fc : Nat) : Option (AV × Mem) :=
  (sLen Try.prog x6 t1).bind fun t14 =>
  (sLt t6 t14).bind fun t15 =>
  sCond t15
  ((sIx 1 t1 t6).bind fun t20 =>
  (sLd false 1 t20 m).bind fun t21 =>
  (sCall0 call x15 [t21, (I (-1000000)), (I 1000000)] m).bind fun p22 =>
  (sNot p22.1).bind fun t23 =>
  sCond t23
  (some (AV.tup [(I 0), (I 2)], p22.2))
  ((sAdd t6 (I 1)).bind fun t17 =>
  rec0 t1 t2 t17 p22.2 (fc + 13)))
  (x48 call hs u t1 t2 m (fc + 4))
noncomputable def x49 (call : FCall) (hs : FHs) (u : Nat) : Nat → AV → AV → AV → Mem → Nat → Option (AV × Mem)
  | 0 => fun _ _ _ _ _ => none
  | n + 1 => fun t1 t2 t6 m fc => x9o call hs u (x49 call hs u n) t1 t2 t6 m fc
noncomputable def x9p (call : FCall) (hs : FHs) (u : Nat) (t1 t2 : AV) (m : Mem) (fc : Nat) : Option (AV × Mem) :=
  x49 call hs u NN t1 t2 (I 0) m (fc + 1)
noncomputable def xbz (call : FCall) (hs : FHs) (u : Nat) (t0 t1 : AV) (m : Mem) (fc : Nat) : Option (AV × Mem) :=
  sBox t0 (u, fc, 2) m fun t2 m_1 =>
  (sLen Try.prog x6 t1).bind fun t8 =>
  (sFA 0 t2).bind fun t9 =>
  (sLd false 1 t9 m_1).bind fun t10 =>
  (sNe t8 t10).bind fun t11 =>
  sCond t11
  (some (AV.tup [(I 0), (I 10)], m_1))
  (x9p call hs u t1 t2 m_1 (fc + 8))
noncomputable def x6s (call : FCall) (hs : FHs) (args : List AV) (m : Mem) : Option (AV × Mem) :=
  match args with
  | [t0, t1] => xbz call hs m.next t0 t1 ⟨m.hp, m.next + 1⟩ 0
  | _ => none

noncomputable def x4a (call : FCall) (hs : FHs) (u : Nat) (t7 : AV) (m : Mem) (fc : Nat) : Option (AV × Mem) :=
  some (AV.tup [t7, (I 0)], m)
noncomputable def x9q (call : FCall) (hs : FHs) (u : Nat) (rec0 : AV → AV → AV → AV → Mem → Nat → Option (AV × Mem)) (t2 t6 t7 t10 : AV) (m : Mem) (fc : Nat) : Option (AV × Mem) :=
  (sFA 0 t2).bind fun t80 =>
  (sLd false 1 t80 m).bind fun t81 =>
  (sLt t10 t81).bind fun t82 =>
  sCond t82
  ((sIx 1 t6 t10).bind fun t87 =>
  (sLd false 1 t87 m).bind fun t88 =>
  (sNe t88 (I 0)).bind fun t89 =>
  sCond t89
  (some (AV.tup [(I 0), (I 25)], m))
  ((sAdd t10 (I 1)).bind fun t84 =>
  rec0 t2 t6 t7 t84 m (fc + 12)))
  (x4a call hs u t7 m (fc + 4))
noncomputable def x4b (call : FCall) (hs : FHs) (u : Nat) : Nat → AV → AV → AV → AV → Mem → Nat → Option (AV × Mem)
  | 0 => fun _ _ _ _ _ _ => none
  | n + 1 => fun t2 t6 t7 t10 m fc => x9q call hs u (x4b call hs u n) t2 t6 t7 t10 m fc
noncomputable def x3r (call : FCall) (hs : FHs) (u : Nat) (t2 t6 t7 : AV) (m : Mem) (fc : Nat) : Option (AV × Mem) :=
  x4b call hs u NN t2 t6 t7 (I 0) m (fc + 1)
noncomputable def x9r (call : FCall) (hs : FHs) (u : Nat) (rec1 : AV → AV → AV → AV → AV → Mem → Nat → Option (AV × Mem)) (t1 t2 t6 t7 t8 : AV) (m : Mem) (fc : Nat) : Option (AV × Mem) :=
  (sLen Try.prog x6 t1).bind fun t22 =>
  (sLt t8 t22).bind fun t23 =>
  sCond t23
  ((sFA 1 t2).bind fun t26 =>
  (sLd false 1 t26 m).bind fun t27 =>
  (sIx 4 t27 t8).bind fun t29 =>
  (sLd true 4 t29 m).bind fun t30 =>
  sAlloc x1o (u, fc + 9, 9) m fun t9 m_1 =>
  sSt 4 t9 t30 m_1 fun m_2 =>
  (sIx 1 t1 t8).bind fun t33 =>
  (sLd false 1 t33 m_2).bind fun t34 =>
  (sFA 3 t9).bind fun t35 =>
  (sLd false 1 t35 m_2).bind fun t36 =>
  (sNeg t36).bind fun t37 =>
  (sFA 3 t9).bind fun t38 =>
  (sLd false 1 t38 m_2).bind fun t39 =>
  (sCall0 call x15 [t34, t37, t39] m_2).bind fun p40 =>
  (sNot p40.1).bind fun t41 =>
  sCond t41
  (some (AV.tup [(I 0), (I 2)], p40.2))
  ((sFA 1 t9).bind fun t43 =>
  (sLd false 1 t43 p40.2).bind fun t44 =>
  (sFA 0 t9).bind fun t46 =>
  (sLd false 1 t46 p40.2).bind fun t47 =>
  (sFA 1 t9).bind fun t49 =>
  (sLd false 1 t49 p40.2).bind fun t50 =>
  (sIx 1 t6 t50).bind fun t51 =>
  (sLd false 1 t51 p40.2).bind fun t52 =>
  (sIx 1 t1 t8).bind fun t55 =>
  (sLd false 1 t55 p40.2).bind fun t56 =>
  (sAdd t52 t56).bind fun t57 =>
  (sFA 0 t9).bind fun t59 =>
  (sLd false 1 t59 p40.2).bind fun t60 =>
  (sIx 1 t6 t60).bind fun t61 =>
  (sLd false 1 t61 p40.2).bind fun t62 =>
  (sIx 1 t1 t8).bind fun t65 =>
  (sLd false 1 t65 p40.2).bind fun t66 =>
  (sSub t62 t66).bind fun t67 =>
  (sIx 1 t1 t8).bind fun t71 =>
  (sLd false 1 t71 p40.2).bind fun t72 =>
  (sFA 2 t9).bind fun t73 =>
  (sLd false 1 t73 p40.2).bind fun t74 =>
  (sMul t72 t74).bind fun t75 =>
  (sAdd t7 t75).bind fun t76 =>
  (sIx 1 t6 t44).bind fun t77 =>
  sSt 1 t77 t57 p40.2 fun m_3 =>
  (sIx 1 t6 t47).bind fun t78 =>
  sSt 1 t78 t67 m_3 fun m_4 =>
  bif (apartIds (tR t46) (tS t77) && (apartIds (tR t73) (tS t77) && (apartIds (tR t73) (tS t78) && true))) then
  (sAdd t8 (I 1)).bind fun t25 =>
  rec1 t1 t2 t6 t76 t25 m_4 (fc + 65) else none))
  (x3r call hs u t2 t6 t7 m (fc + 4))
noncomputable def x4c (call : FCall) (hs : FHs) (u : Nat) : Nat → AV → AV → AV → AV → AV → Mem → Nat → Option (AV × Mem)
  | 0 => fun _ _ _ _ _ _ _ => none
  | n + 1 => fun t1 t2 t6 t7 t8 m fc => x9r call hs u (x4c call hs u n) t1 t2 t6 t7 t8 m fc
noncomputable def x9s (call : FCall) (hs : FHs) (u : Nat) (t1 t2 t6 t7 : AV) (m : Mem) (fc : Nat) : Option (AV × Mem) :=
  x4c call hs u NN t1 t2 t6 t7 (I 0) m (fc + 1)
noncomputable def xc0 (call : FCall) (hs : FHs) (u : Nat) (t0 t1 : AV) (m : Mem) (fc : Nat) : Option (AV × Mem) :=
  sBox t0 (u, fc, 2) m fun t2 m_5 =>
  (sLen Try.prog x6 t1).bind fun t12 =>
  (sFA 1 t2).bind fun t13 =>
  (sLd false 1 t13 m_5).bind fun t14 =>
  (sLen Try.prog x1c t14).bind fun t15 =>
  (sNe t12 t15).bind fun t16 =>
  sCond t16
  (some (AV.tup [(I 0), (I 10)], m_5))
  ((sFA 0 t2).bind fun t17 =>
  (sLd false 1 t17 m_5).bind fun t18 =>
  sMkSl z_int 1 8 t18 t18 (u, fc + 11, 19) m_5 fun t19 m_6 =>
  x9s call hs u t1 t2 t19 (I 0) m_6 (fc + 14))
noncomputable def x6t (call : FCall) (hs : FHs) (args : List AV) (m : Mem) : Option (AV × Mem) :=
  match args with
  | [t0, t1] => xc0 call hs m.next t0 t1 ⟨m.hp, m.next + 1⟩ 0
  | _ => none

noncomputable def x57 (call : FCall) (hs : FHs) (u : Nat) (m : Mem) (fc : Nat) : Option (AV × Mem) :=
  some ((I 0), m)
noncomputable def xk7 (call : FCall) (hs : FHs) (u : Nat) (rec0 : AV → AV → AV → Mem → Nat → Option (AV × Mem)) (t57 t58 t59 : AV) (m : Mem) (fc : Nat) : Option (AV × Mem) :=
  (sLt t59 t58).bind fun t60 =>
  sCond t60
  ((sIx 1 t57 t59).bind fun t61 =>
  (sLd false 1 t61 m).bind fun t62 =>
  (sCall0 call x41 [t62] m).bind fun p64 =>
  (sNot p64.1).bind fun t65 =>
  sCond t65
  (some ((I 2), p64.2))
  ((sAdd t59 (I 1)).bind fun t66 =>
  rec0 t57 t58 t66 p64.2 (fc + 9)))
  (x57 call hs u m (fc + 1))
noncomputable def x7f (call : FCall) (hs : FHs) (u : Nat) : Nat → AV → AV → AV → Mem → Nat → Option (AV × Mem)
  | 0 => fun _ _ _ _ _ => none
  | n + 1 => fun t57 t58 t59 m fc => xk7 call hs u (x7f call hs u n) t57 t58 t59 m fc
noncomputable def xc1 (call : FCall) (hs : FHs) (u : Nat) (t1 : AV) (m : Mem) (fc : Nat) : Option (AV × Mem) :=
  (sFA 3 t1).bind fun t52 =>
  (sLd false 1 t52 m).bind fun t53 =>
  (sFA 4 t1).bind fun t54 =>
  (sLd false 1 t54 m).bind fun t55 =>
  sMkLit x2k [(0, 1, t53), (1, 1, t55)] 2 1 (u, fc + 4, 56) m fun t56 m_1 =>
  (sCall0 call xd [t56] m_1).bind fun p57 =>
  (sLen Try.prog x6 p57.1).bind fun t58 =>
  x7f call hs u NN p57.1 t58 (I 0) p57.2 (fc + 8)
noncomputable def xk8 (call : FCall) (hs : FHs) (u : Nat) (t0 : AV) (m : Mem) (fc : Nat) : Option (AV × Mem) :=
  sBox t0 (u, fc, 1) m fun t1 m_2 =>
  (sFA 0 t1).bind fun t8 =>
  (sLd true 3 t8 m_2).bind fun t9 =>
  sAlloc x55 (u, fc + 4, 3) m_2 fun t3 m_3 =>
  sSt 3 t3 t9 m_3 fun m_4 =>
  (sFA 0 t3).bind fun t10 =>
  (sLd false 1 t10 m_4).bind fun t11 =>
  (sFA 1 t3).bind fun t12 =>
  (sLd false 1 t12 m_4).bind fun t13 =>
  (sFA 2 t3).bind fun t14 =>
  (sLd false 1 t14 m_4).bind fun t15 =>
  (sLen Try.prog x6 t15).bind fun t16 =>
  (sCall0 call x5z [t11, t13, t16] m_4).bind fun p17 =>
  (sNe p17.1 (I 0)).bind fun t19 =>
  sCond t19
  (some (p17.1, p17.2))
  ((sFA 2 t3).bind fun t21 =>
  (sLd false 1 t21 p17.2).bind fun t22 =>
  (sLen Try.prog x6 t22).bind fun t23 =>
  (sGt t23 (I 144)).bind fun t24 =>
  sCond t24
  (some ((I 8), p17.2))
  ((sLd true 3 t3 p17.2).bind fun t25 =>
  (sCall0 call x60 [t25, (AV.clo x61 [])] p17.2).bind fun p26 =>
  (sNe p26.1 (I 0)).bind fun t28 =>
  sCond t28
  (some (p26.1, p26.2))
  ((sFA 3 t1).bind fun t30 =>
  (sLd false 1 t30 p26.2).bind fun t31 =>
  (sLen Try.prog x6 t31).bind fun t32 =>
  (sFA 0 t3).bind fun t33 =>
  (sLd false 1 t33 p26.2).bind fun t34 =>
  (sFA 1 t3).bind fun t35 =>
  (sLd false 1 t35 p26.2).bind fun t36 =>
  (sSub t36 (I 1)).bind fun t37 =>
  (sMul t34 t37).bind fun t38 =>
  (sNe t32 t38).bind fun t39 =>
  (bif sW t39 false then (sFA 4 t1).bind fun v => some (v, p26.2) else some (U, p26.2)).bind fun p41 =>
  (bif sW t39 false then (sLd false 1 p41.1 p41.2).bind fun v => some (v, p41.2) else some (U, p41.2)).bind fun p42 =>
  (bif sW t39 false then (sLen Try.prog x6 p42.1).bind fun v => some (v, p42.2) else some (U, p42.2)).bind fun p43 =>
  (bif sW t39 false then (sFA 0 t3).bind fun v => some (v, p43.2) else some (U, p43.2)).bind fun p44 =>
  (bif sW t39 false then (sLd false 1 p44.1 p44.2).bind fun v => some (v, p44.2) else some (U, p44.2)).bind fun p45 =>
  (bif sW t39 false then (sSub p45.1 (I 1)).bind fun v => some (v, p45.2) else some (U, p45.2)).bind fun p46 =>
  (bif sW t39 false then (sFA 1 t3).bind fun v => some (v, p46.2) else some (U, p46.2)).bind fun p47 =>
  (bif sW t39 false then (sLd false 1 p47.1 p47.2).bind fun v => some (v, p47.2) else some (U, p47.2)).bind fun p48 =>
  (bif sW t39 false then (sMul p46.1 p48.1).bind fun v => some (v, p48.2) else some (U, p48.2)).bind fun p49 =>
  (bif sW t39 false then (sNe p43.1 p49.1).bind fun v => some (v, p49.2) else some (U, p49.2)).bind fun p50 =>
  (sPick t39 (B true) p50.1).bind fun t51 =>
  sCond t51
  (some ((I 10), p50.2))
  (xc1 call hs u t1 p50.2 (fc + 48)))))
noncomputable def x87 (call : FCall) (hs : FHs) (args : List AV) (m : Mem) : Option (AV × Mem) :=
  match args with
  | [t0] => xk8 call hs m.next t0 ⟨m.hp, m.next + 1⟩ 0
  | _ => none

noncomputable def x8w (call : FCall) (hs : FHs) (u : Nat) (t0 t1 t2 : AV) (m : Mem) (fc : Nat) : Option (AV × Mem) :=
  sBox t0 (u, fc, 3) m fun t3 m_1 =>
  sAlloc x3q (u, fc + 1, 6) m_1 fun t6 m_2 =>
  (sLd true 2 t3 m_2).bind fun t13 =>
  (sCall0 call x2t [t13] m_2).bind fun p14 =>
  (sExt p14.1 0).bind fun t15 =>
  (sExt p14.1 1).bind fun t16 =>
  sAlloc x2v (u, fc + 8, 8) p14.2 fun t8 m_3 =>
  sSt 2 t8 t15 m_3 fun m_4 =>
  (sNe t16 (I 0)).bind fun t19 =>
  sCond t19
  ((sBuild x3q []).bind fun t20 =>
  sSt 2 t6 t20 m_4 fun m_5 =>
  (sLdP true 2 t6 m_5).bind fun r0 =>
  some (AV.tup [r0, t16], m_5))
  ((sFA 0 t3).bind fun t24 =>
  (sLd false 1 t24 m_4).bind fun t25 =>
  (sSub t25 (I 1)).bind fun t26 =>
  (sCall0 call x1e [t1, (I 0), t26] m_4).bind fun p27 =>
  (sNot p27.1).bind fun t28 =>
  (bif sW t28 false then some (t2, p27.2) else some (U, p27.2)).bind fun p30 =>
  (bif sW t28 false then (sFA 0 t3).bind fun v => some (v, p30.2) else some (U, p30.2)).bind fun p31 =>
  (bif sW t28 false then (sLd false 1 p31.1 p31.2).bind fun v => some (v, p31.2) else some (U, p31.2)).bind fun p32 =>
  (bif sW t28 false then (sSub p32.1 (I 1)).bind fun v => some (v, p32.2) else some (U, p32.2)).bind fun p33 =>
  (bif sW t28 false then (sCall0 call x1e [p30.1, (I 0), p33.1] p33.2).bind fun p => some (p.1, p.2) else some (U, p33.2)).bind fun p34 =>
  (bif sW t28 false then (sNot p34.1).bind fun v => some (v, p34.2) else some (U, p34.2)).bind fun p35 =>
  (sPick t28 (B true) p35.1).bind fun t36 =>
  sCond t36
  ((sBuild x3q []).bind fun t37 =>
  sSt 2 t6 t37 p35.2 fun m_6 =>
  (sLdP true 2 t6 m_6).bind fun r0 =>
  some (AV.tup [r0, (I 6)], m_6))
  ((sLd true 2 t8 p35.2).bind fun t38 =>
  (sCall0 call xr [t38] p35.2).bind fun p39 =>
  (sIx 1 p39.1 t1).bind fun t42 =>
  (sLd false 1 t42 p39.2).bind fun t43 =>
  (sIx 1 p39.1 t2).bind fun t46 =>
  (sLd false 1 t46 p39.2).bind fun t47 =>
  (sNe t43 t47).bind fun t48 =>
  sCond t48
  ((sBuild x3q []).bind fun t49 =>
  sSt 2 t6 t49 p39.2 fun m_7 =>
  (sLdP true 2 t6 m_7).bind fun r0 =>
  some (AV.tup [r0, (I 25)], m_7))
  ((sLd true 2 t8 p39.2).bind fun t50 =>
  (sCall1 call x9 [t50] p39.2).bind fun p51 =>
  (sCall4 call xh [p51.1, t2] p51.2).bind fun p54 =>
  (sIx 1 p54.1 t1).bind fun t56 =>
  (sLd false 1 t56 p54.2).bind fun t57 =>
  (sNeg t57).bind fun t58 =>
  (sCall4 call xh [p51.1, t1] p54.2).bind fun p61 =>
  (sIx 1 p61.1 t2).bind fun t63 =>
  (sLd false 1 t63 p61.2).bind fun t64 =>
  (sBuild x3q [(0, 1, t58), (1, 1, t64)]).bind fun t65 =>
  sSt 2 t6 t65 p61.2 fun m_8 =>
  bif (Nat.ble 1 (mkM 4 [p51.1, t2]) && (Nat.ble 1 (mkM 4 [p51.1, t1]) && true)) && (cAp none (tR t56) (mkM 4 [p51.1, t1]) && true) then
  (sLdP true 2 t6 m_8).bind fun r0 =>
  some (AV.tup [r0, (I 0)], m_8) else none)))
noncomputable def x52 (call : FCall) (hs : FHs) (args : List AV) (m : Mem) : Option (AV × Mem) :=
  match args with
  | [t0, t1, t2] => x8w call hs m.next t0 t1 t2 ⟨m.hp, m.next + 1⟩ 0
  | _ => none

noncomputable def x58 (call : FCall) (hs : FHs) (u : Nat) (m : Mem) (fc : Nat) : Option (AV × Mem) :=
  some ((B true), m)
noncomputable def xk9 (call : FCall) (hs : FHs) (u : Nat) (rec0 : AV → AV → AV → Mem → Nat → Option (AV × Mem)) (t0 t1 t5 : AV) (m : Mem) (fc : Nat) : Option (AV × Mem) :=
  (sLen Try.prog x6 t0).bind fun t13 =>
  (sLt t5 t13).bind fun t14 =>
  sCond t14
  ((sIx 1 t0 t5).bind fun t19 =>
  (sLd false 1 t19 m).bind fun t20 =>
  (sIx 1 t1 t5).bind fun t23 =>
  (sLd false 1 t23 m).bind fun t24 =>
  (sNe t20 t24).bind fun t25 =>
  sCond t25
  (some ((B false), m))
  ((sAdd t5 (I 1)).bind fun t16 =>
  rec0 t0 t1 t16 m (fc + 16)))
  (x58 call hs u m (fc + 4))
noncomputable def x7g (call : FCall) (hs : FHs) (u : Nat) : Nat → AV → AV → AV → Mem → Nat → Option (AV × Mem)
  | 0 => fun _ _ _ _ _ => none
  | n + 1 => fun t0 t1 t5 m fc => xk9 call hs u (x7g call hs u n) t0 t1 t5 m fc
noncomputable def xc2 (call : FCall) (hs : FHs) (u : Nat) (t0 t1 : AV) (m : Mem) (fc : Nat) : Option (AV × Mem) :=
  x7g call hs u NN t0 t1 (I 0) m (fc + 1)
noncomputable def xka (call : FCall) (hs : FHs) (u : Nat) (t0 t1 : AV) (m : Mem) (fc : Nat) : Option (AV × Mem) :=
  (sLen Try.prog x6 t0).bind fun t7 =>
  (sLen Try.prog x6 t1).bind fun t9 =>
  (sNe t7 t9).bind fun t10 =>
  sCond t10
  (some ((B false), m))
  (xc2 call hs u t0 t1 m (fc + 6))
noncomputable def x88 (call : FCall) (hs : FHs) (args : List AV) (m : Mem) : Option (AV × Mem) :=
  match args with
  | [t0, t1] => xka call hs m.next t0 t1 ⟨m.hp, m.next + 1⟩ 0
  | _ => none

noncomputable def xc3 (call : FCall) (hs : FHs) (u : Nat) (t0 t1 t2 : AV) (m : Mem) (fc : Nat) : Option (AV × Mem) :=
  (sLe t1 t0).bind fun t9 =>
  (bif sW t9 true then some (t0, m) else some (U, m)).bind fun p11 =>
  (bif sW t9 true then some (t2, p11.2) else some (U, p11.2)).bind fun p12 =>
  (bif sW t9 true then (sLe p11.1 p12.1).bind fun v => some (v, p12.2) else some (U, p12.2)).bind fun p13 =>
  (sPick t9 p13.1 (B false)).bind fun t14 =>
  some (t14, p13.2)
noncomputable def x6u (call : FCall) (hs : FHs) (args : List AV) (m : Mem) : Option (AV × Mem) :=
  match args with
  | [t0, t1, t2] => xc3 call hs m.next t0 t1 t2 ⟨m.hp, m.next + 1⟩ 0
  | _ => none

noncomputable def xc4 (call : FCall) (hs : FHs) (u : Nat) (t0 t1 : AV) (m : Mem) (fc : Nat) : Option (AV × Mem) :=
  sBox t0 (u, fc, 2) m fun t2 m_1 =>
  (sLd true 2 t2 m_1).bind fun t9 =>
  (sCall0 call x2t [t9] m_1).bind fun p10 =>
  (sExt p10.1 0).bind fun t11 =>
  (sExt p10.1 1).bind fun t12 =>
  sAlloc x2v (u, fc + 8, 6) p10.2 fun t6 m_2 =>
  sSt 2 t6 t11 m_2 fun m_3 =>
  (sNe t12 (I 0)).bind fun t15 =>
  sCond t15
  (some (AV.tup [(I 0), t12], m_3))
  ((sLen Try.prog x6 t1).bind fun t19 =>
  (sFA 0 t2).bind fun t20 =>
  (sLd false 1 t20 m_3).bind fun t21 =>
  (sNe t19 t21).bind fun t22 =>
  sCond t22
  (some (AV.tup [(I 0), (I 10)], m_3))
  ((sCall0 call x2j [t1, (AV.clo x42 [])] m_3).bind fun p25 =>
  sCond p25.1
  (some (AV.tup [(I 0), (I 2)], p25.2))
  ((sLd true 2 t6 p25.2).bind fun t26 =>
  (sCall3 call xz [t26, t1] p25.2).bind fun p28 =>
  some (AV.tup [p28.1, (I 0)], p28.2))))
noncomputable def x6v (call : FCall) (hs : FHs) (args : List AV) (m : Mem) : Option (AV × Mem) :=
  match args with
  | [t0, t1] => xc4 call hs m.next t0 t1 ⟨m.hp, m.next + 1⟩ 0
  | _ => none

noncomputable def x9t (call : FCall) (hs : FHs) (u : Nat) (t0 : AV) (m : Mem) (fc : Nat) : Option (AV × Mem) :=
  sMkLit z_int [] 0 1 (u, fc + 1, 3) m fun t3 m_1 =>
  sApp 1 8 (u, fc + 3, 5) (elems m_1.get 1 t0) t3 m_1 fun t5 m_2 =>
  some (t5, m_2)
noncomputable def x5w (call : FCall) (hs : FHs) (args : List AV) (m : Mem) : Option (AV × Mem) :=
  match args with
  | [t0] => x9t call hs m.next t0 ⟨m.hp, m.next + 1⟩ 0
  | _ => none

noncomputable def xc5 (call : FCall) (hs : FHs) (u : Nat) (t0 : AV) (m : Mem) (fc : Nat) : Option (AV × Mem) :=
  sBox t0 (u, fc, 1) m fun t1 m_1 =>
  (sLd true 2 t1 m_1).bind fun t3 =>
  (sCall0 call xy [t3] m_1).bind fun p4 =>
  (bif sW p4.1 true then (sLd true 2 t1 p4.2).bind fun v => some (v, p4.2) else some (U, p4.2)).bind fun p6 =>
  (bif sW p4.1 true then (sCall0 call x2h [p6.1] p6.2).bind fun p => some (p.1, p.2) else some (U, p6.2)).bind fun p7 =>
  (bif sW p4.1 true then (sEq p7.1 (I 0)).bind fun v => some (v, p7.2) else some (U, p7.2)).bind fun p8 =>
  (sPick p4.1 p8.1 (B false)).bind fun t9 =>
  some (t9, p8.2)
noncomputable def x6w (call : FCall) (hs : FHs) (args : List AV) (m : Mem) : Option (AV × Mem) :=
  match args with
  | [t0] => xc5 call hs m.next t0 ⟨m.hp, m.next + 1⟩ 0
  | _ => none

noncomputable def x2w (call : FCall) (hs : FHs) (u : Nat) (t2 t7 t8 t9 : AV) (m : Mem) (fc : Nat) : Option (AV × Mem) :=
  (sLd true 3 t9 m).bind fun t61 =>
  (sNil t8).bind fun t63 =>
  (sFA 2 t63).bind fun t64 =>
  (sLd false 1 t64 m).bind fun t65 =>
  (sLd true 2 t7 m).bind fun t66 =>
  (sNil t8).bind fun t68 =>
  (sFA 3 t68).bind fun t69 =>
  (sLd false 1 t69 m).bind fun t70 =>
  (sCall3 call xz [t66, t70] m).bind fun p71 =>
  sSt 3 t2 t61 p71.2 fun m_1 =>
  bif (Nat.ble 1 (mkM 3 [t66, t70]) && true) && (cAp none (tR t9) (mkM 3 [t66, t70]) && (cAp none (tR t64) (mkM 3 [t66, t70]) && (apartIds (tR t64) (tS t2) && true))) then
  (sLdP true 3 t2 m_1).bind fun r0 =>
  some (AV.tup [r0, t65, p71.1, (I 0)], m_1) else none
noncomputable def x9u (call : FCall) (hs : FHs) (u : Nat) (rec0 : AV → AV → AV → AV → AV → AV → AV → Mem → Nat → Option (AV × Mem)) (t2 t7 t8 t9 t37 t38 t39 : AV) (m : Mem) (fc : Nat) : Option (AV × Mem) :=
  (sAdd t39 (I 1)).bind fun t60 =>
  rec0 t2 t7 t8 t9 t37 t38 t60 m (fc + 2)
noncomputable def xc6 (call : FCall) (hs : FHs) (u : Nat) (rec0 : AV → AV → AV → AV → AV → AV → AV → Mem → Nat → Option (AV × Mem)) (t2 t7 t8 t9 t37 t38 t39 : AV) (m : Mem) (fc : Nat) : Option (AV × Mem) :=
  (sIx 1 t37 t39).bind fun t42 =>
  (sLd false 1 t42 m).bind fun t43 =>
  (sFA 2 t9).bind fun t44 =>
  (sLd false 1 t44 m).bind fun t45 =>
  (sIx 1 t45 t39).bind fun t47 =>
  (sLd false 1 t47 m).bind fun t48 =>
  (sCall0 call x3o [t48] m).bind fun p49 =>
  (sNot p49.1).bind fun t50 =>
  sCond t50
  ((sFA 2 t9).bind fun t51 =>
  (sLd false 1 t51 p49.2).bind fun t52 =>
  (sIx 1 t52 t39).bind fun t54 =>
  (sLd false 1 t54 p49.2).bind fun t55 =>
  (sMul t43 (I 4096)).bind fun t57 =>
  (sAdd t55 t57).bind fun t58 =>
  (sIx 1 t52 t39).bind fun t59 =>
  sSt 1 t59 t58 p49.2 fun m_2 =>
  x9u call hs u rec0 t2 t7 t8 t9 t37 t38 t39 m_2 (fc + 22))
  (x9u call hs u rec0 t2 t7 t8 t9 t37 t38 t39 p49.2 (fc + 12))
noncomputable def xkb (call : FCall) (hs : FHs) (u : Nat) (rec0 : AV → AV → AV → AV → AV → AV → AV → Mem → Nat → Option (AV × Mem)) (t2 t7 t8 t9 t37 t38 t39 : AV) (m : Mem) (fc : Nat) : Option (AV × Mem) :=
  (sLt t39 t38).bind fun t40 =>
  sCond t40
  (xc6 call hs u rec0 t2 t7 t8 t9 t37 t38 t39 m (fc + 1))
  (x2w call hs u t2 t7 t8 t9 m (fc + 1))
noncomputable def x7h (call : FCall) (hs : FHs) (u : Nat) : Nat → AV → AV → AV → AV → AV → AV → AV → Mem → Nat → Option (AV × Mem)
  | 0 => fun _ _ _ _ _ _ _ _ _ => none
  | n + 1 => fun t2 t7 t8 t9 t37 t38 t39 m fc => xkb call hs u (x7h call hs u n) t2 t7 t8 t9 t37 t38 t39 m fc
noncomputable def xc7 (call : FCall) (hs : FHs) (u : Nat) (t2 t7 t8 t9 : AV) (m : Mem) (fc : Nat) : Option (AV × Mem) :=
  (sNil t8).bind fun t35 =>
  (sFA 3 t35).bind fun t36 =>
  (sLd false 1 t36 m).bind fun t37 =>
  (sLen Try.prog x6 t37).bind fun t38 =>
  x7h call hs u NN t2 t7 t8 t9 t37 t38 (I 0) m (fc + 6)
noncomputable def xkc (call : FCall) (hs : FHs) (u : Nat) (t0 : AV) (m : Mem) (fc : Nat) : Option (AV × Mem) :=
  sBox t0 (u, fc, 1) m fun t1 m_3 =>
  sAlloc x55 (u, fc + 1, 2) m_3 fun t2 m_4 =>
  (sLd true 5 t1 m_4).bind fun t12 =>
  (sCall0 call xp [t12] m_4).bind fun p13 =>
  (sNe p13.1 (I 0)).bind fun t15 =>
  sCond t15
  ((sBuild x55 []).bind fun t16 =>
  sSt 3 t2 t16 p13.2 fun m_5 =>
  (sLdP true 3 t2 m_5).bind fun r0 =>
  some (AV.tup [r0, nilS, (I 0), p13.1], m_5))
  ((sLd true 5 t1 p13.2).bind fun t18 =>
  (sCall0 call xu [t18] p13.2).bind fun p19 =>
  (sBuild x2v [(0, 2, p19.1)]).bind fun t20 =>
  sAlloc x2v (u, fc + 13, 7) p19.2 fun t7 m_6 =>
  sSt 2 t7 t20 m_6 fun m_7 =>
  (sLd true 2 t7 m_7).bind fun t21 =>
  (sCall1 call x9 [t21] m_7).bind fun p22 =>
  (sFA 0 t1).bind fun t23 =>
  (sFA 0 t23).bind fun t24 =>
  (sLd false 1 t24 p22.2).bind fun t25 =>
  (sFA 0 t1).bind fun t26 =>
  (sFA 1 t26).bind fun t27 =>
  (sLd false 1 t27 p22.2).bind fun t28 =>
  (sFA 0 t1).bind fun t29 =>
  (sFA 2 t29).bind fun t30 =>
  (sLd false 1 t30 p22.2).bind fun t31 =>
  (sCall1 call x63 [t31] p22.2).bind fun p32 =>
  (sBuild x55 [(0, 1, t25), (1, 1, t28), (2, 1, p32.1)]).bind fun t33 =>
  sAlloc x55 (u, fc + 29, 9) p32.2 fun t9 m_8 =>
  sSt 3 t9 t33 m_8 fun m_9 =>
  bif (Nat.ble 1 (mkM 1 [t31]) && true) && (cAp none (tR t24) (mkM 1 [t31]) && (cAp none (tR t27) (mkM 1 [t31]) && (apartIds (tR t24) (some [], some [(u, fc + 29, 9)]) && (apartIds (tR t27) (some [], some [(u, fc + 29, 9)]) && (apartIds (tR t30) (some [], some [(u, fc + 29, 9)]) && (cAp (some p22.2.next) (some [], some [(u, fc + 29, 9)]) (mkM 1 [t31]) && true)))))) then
  xc7 call hs u t2 t7 p22.1 t9 m_9 (fc + 31) else none)
noncomputable def x89 (call : FCall) (hs : FHs) (args : List AV) (m : Mem) : Option (AV × Mem) :=
  match args with
  | [t0] => xkc call hs m.next t0 ⟨m.hp, m.next + 1⟩ 0
  | _ => none

noncomputable def xc8 (call : FCall) (hs : FHs) (u : Nat) (t0 t1 : AV) (m : Mem) (fc : Nat) : Option (AV × Mem) :=
  sBox t0 (u, fc, 2) m fun t2 m_1 =>
  (sLd true 2 t2 m_1).bind fun t9 =>
  (sCall0 call x2t [t9] m_1).bind fun p10 =>
  (sExt p10.1 0).bind fun t11 =>
  (sExt p10.1 1).bind fun t12 =>
  sAlloc x2v (u, fc + 8, 6) p10.2 fun t6 m_2 =>
  sSt 2 t6 t11 m_2 fun m_3 =>
  (sNe t12 (I 0)).bind fun t14 =>
  sCond t14
  (some (AV.tup [(I 0), t12], m_3))
  ((sLd true 2 t6 m_3).bind fun t16 =>
  (sCall0 call x16 [t16, t1] m_3).bind fun p18 =>
  (sExt p18.1 0).bind fun t19 =>
  (sExt p18.1 1).bind fun t20 =>
  some (AV.tup [t19, t20], p18.2))
noncomputable def x6x (call : FCall) (hs : FHs) (args : List AV) (m : Mem) : Option (AV × Mem) :=
  match args with
  | [t0, t1] => xc8 call hs m.next t0 t1 ⟨m.hp, m.next + 1⟩ 0
  | _ => none

noncomputable def x4d (call : FCall) (hs : FHs) (u : Nat) (t5 : AV) (m : Mem) (fc : Nat) : Option (AV × Mem) :=
  some (t5, m)
noncomputable def x9v (call : FCall) (hs : FHs) (u : Nat) (rec0 : AV → AV → AV → AV → Mem → Nat → Option (AV × Mem)) (t1 t2 t5 t6 : AV) (m : Mem) (fc : Nat) : Option (AV × Mem) :=
  (sFA 1 t2).bind fun t8 =>
  (sLd false 1 t8 m).bind fun t9 =>
  (sLen Try.prog x1c t9).bind fun t10 =>
  (sLt t6 t10).bind fun t11 =>
  sCond t11
  ((sFA 1 t2).bind fun t15 =>
  (sLd false 1 t15 m).bind fun t16 =>
  (sIx 4 t16 t6).bind fun t18 =>
  (sFA 3 t18).bind fun t19 =>
  (sLd false 1 t19 m).bind fun t20 =>
  (sFA 1 t2).bind fun t21 =>
  (sLd false 1 t21 m).bind fun t22 =>
  (sIx 4 t22 t6).bind fun t24 =>
  (sLd true 4 t24 m).bind fun t25 =>
  (sCall0 call x54 [t25, t1] m).bind fun p27 =>
  (sCall0 call x40 [p27.1] p27.2).bind fun p28 =>
  (sMul t20 p28.1).bind fun t29 =>
  (sAdd t5 t29).bind fun t30 =>
  bif (Nat.ble 1 (mkM 0 [t25, t1]) && (Nat.ble 1 (mkM 0 [p27.1]) && true)) && (cAp none (tR t15) (mkM 0 [t25, t1]) && (cAp none (tR t19) (mkM 0 [t25, t1]) && (cAp none (tR t15) (mkM 0 [p27.1]) && (cAp none (tR t19) (mkM 0 [p27.1]) && true)))) then
  (sAdd t6 (I 1)).bind fun t13 =>
  rec0 t1 t2 t30 t13 p28.2 (fc + 26) else none)
  (x4d call hs u t5 m (fc + 5))
noncomputable def x4e (call : FCall) (hs : FHs) (u : Nat) : Nat → AV → AV → AV → AV → Mem → Nat → Option (AV × Mem)
  | 0 => fun _ _ _ _ _ _ => none
  | n + 1 => fun t1 t2 t5 t6 m fc => x9v call hs u (x4e call hs u n) t1 t2 t5 t6 m fc
noncomputable def x9w (call : FCall) (hs : FHs) (u : Nat) (t1 t2 t5 : AV) (m : Mem) (fc : Nat) : Option (AV × Mem) :=
  x4e call hs u NN t1 t2 t5 (I 0) m (fc + 1)
noncomputable def xc9 (call : FCall) (hs : FHs) (u : Nat) (t0 t1 : AV) (m : Mem) (fc : Nat) : Option (AV × Mem) :=
  sBox t0 (u, fc, 2) m fun t2 m_1 =>
  x9w call hs u t1 t2 (I 0) m_1 (fc + 3)
noncomputable def x6y (call : FCall) (hs : FHs) (args : List AV) (m : Mem) : Option (AV × Mem) :=
  match args with
  | [t0, t1] => xc9 call hs m.next t0 t1 ⟨m.hp, m.next + 1⟩ 0
  | _ => none

noncomputable def xkd (call : FCall) (hs : FHs) (u : Nat) (t0 : AV) (m : Mem) (fc : Nat) : Option (AV × Mem) :=
  sBox t0 (u, fc, 1) m fun t1 m_1 =>
  (sLd true 5 t1 m_1).bind fun t7 =>
  (sCall0 call xp [t7] m_1).bind fun p8 =>
  (sNe p8.1 (I 0)).bind fun t10 =>
  sCond t10
  (some (AV.tup [nilS, p8.1], p8.2))
  ((sLd true 5 t1 p8.2).bind fun t12 =>
  (sCall0 call xu [t12] p8.2).bind fun p13 =>
  (sBuild x2v [(0, 2, p13.1)]).bind fun t14 =>
  sAlloc x2v (u, fc + 11, 5) p13.2 fun t5 m_2 =>
  sSt 2 t5 t14 m_2 fun m_3 =>
  (sLd true 2 t5 m_3).bind fun t15 =>
  (sCall0 call x1a [t15] m_3).bind fun p16 =>
  sAlloc x2k (u, fc + 15, 6) p16.2 fun t6 m_4 =>
  sSt 1 t6 p16.1 m_4 fun m_5 =>
  (sLd true 2 t5 m_5).bind fun t17 =>
  (call hs xv [t17, (AV.clo x64 [t6])] m_5).bind fun p19 =>
  some (AV.tup [p19.1, (I 0)], p19.2))
noncomputable def x8a (call : FCall) (hs : FHs) (args : List AV) (m : Mem) : Option (AV × Mem) :=
  match args with
  | [t0] => xkd call hs m.next t0 ⟨m.hp, m.next + 1⟩ 0
  | _ => none

noncomputable def xke (call : FCall) (hs : FHs) (u : Nat) (t0 : AV) (m : Mem) (fc : Nat) : Option (AV × Mem) :=
  sAlloc x56 (u, fc, 2) m fun t2 m_1 =>
  (sBuild x1o [(0, 1, (I 0)), (1, 1, (I 1)), (2, 1, (I 1)), (3, 1, (I 5))]).bind fun t3 =>
  (sBuild x1o [(0, 1, (I 1)), (1, 1, (I 2)), (3, 1, (I 3))]).bind fun t4 =>
  (sBuild x1o [(0, 1, (I 2)), (1, 1, (I 0)), (3, 1, t0)]).bind fun t6 =>
  sMkLit x1o [(0, 4, t3), (4, 4, t4), (8, 4, t6)] 3 4 (u, fc + 5, 7) m_1 fun t7 m_2 =>
  (sBuild x56 [(0, 1, (I 3)), (1, 1, t7)]).bind fun t8 =>
  sSt 2 t2 t8 m_2 fun m_3 =>
  (sLdP true 2 t2 m_3).bind fun r0 =>
  some (r0, m_3)
noncomputable def x8b (call : FCall) (hs : FHs) (args : List AV) (m : Mem) : Option (AV × Mem) :=
  match args with
  | [t0] => xke call hs m.next t0 ⟨m.hp, m.next + 1⟩ 0
  | _ => none

noncomputable def x9x (call : FCall) (hs : FHs) (u : Nat) (t2 t3 : AV) (m : Mem) (fc : Nat) : Option (AV × Mem) :=
  (sLd true 5 t3 m).bind fun t19 =>
  sSt 5 t2 t19 m fun m_1 =>
  (sLdP true 5 t2 m_1).bind fun r0 =>
  some (r0, m_1)
noncomputable def xca (call : FCall) (hs : FHs) (u : Nat) (t0 t2 t3 : AV) (m : Mem) (fc : Nat) : Option (AV × Mem) :=
  (sGt t0 (I 0)).bind fun t10 =>
  sCond t10
  (sMkLit z_int [(0, 1, t0), (1, 1, t0)] 2 1 (u, fc + 4, 13) m fun t13 m_2 =>
  sMkLit z_int [(0, 1, t0), (1, 1, t0)] 2 1 (u, fc + 7, 16) m_2 fun t16 m_3 =>
  (sFA 3 t3).bind fun t17 =>
  sSt 1 t17 t13 m_3 fun m_4 =>
  (sFA 4 t3).bind fun t18 =>
  sSt 1 t18 t16 m_4 fun m_5 =>
  x9x call hs u t2 t3 m_5 (fc + 12))
  (x9x call hs u t2 t3 m (fc + 2))
noncomputable def xkf (call : FCall) (hs : FHs) (u : Nat) (t0 : AV) (m : Mem) (fc : Nat) : Option (AV × Mem) :=
  sAlloc xcb (u, fc, 2) m fun t2 m_6 =>
  sMkLit z_int [(0, 1, (I 0)), (1, 1, (I 1500)), (2, 1, (I (-1500))), (3, 1, (I (-1096)))] 4 1 (u, fc + 1, 4) m_6 fun t4 m_7 =>
  (sBuild x55 [(0, 1, (I 2)), (1, 1, (I 2)), (2, 1, t4)]).bind fun t5 =>
  sMkLit z_int [(0, 1, (I 5)), (1, 1, (I 4))] 2 1 (u, fc + 3, 6) m_7 fun t6 m_8 =>
  sMkLit z_int [(0, 1, (I 3)), (1, 1, (I 2))] 2 1 (u, fc + 4, 7) m_8 fun t7 m_9 =>
  (sBuild xcb [(0, 3, t5), (3, 1, t6), (4, 1, t7)]).bind fun t8 =>
  sAlloc xcb (u, fc + 6, 3) m_9 fun t3 m_10 =>
  sSt 5 t3 t8 m_10 fun m_11 =>
  xca call hs u t0 t2 t3 m_11 (fc + 8)
noncomputable def x8c (call : FCall) (hs : FHs) (args : List AV) (m : Mem) : Option (AV × Mem) :=
  match args with
  | [t0] => xkf call hs m.next t0 ⟨m.hp, m.next + 1⟩ 0
  | _ => none

noncomputable def xcc (call : FCall) (hs : FHs) (u : Nat) (t0 : AV) (m : Mem) (fc : Nat) : Option (AV × Mem) :=
  (sNeg t0).bind fun t5 =>
  (sMax t0 t5).bind fun t6 =>
  some (t6, m)
noncomputable def x6z (call : FCall) (hs : FHs) (args : List AV) (m : Mem) : Option (AV × Mem) :=
  match args with
  | [t0] => xcc call hs m.next t0 ⟨m.hp, m.next + 1⟩ 0
  | _ => none

noncomputable def xcd (call : FCall) (hs : FHs) (u : Nat) (t0 : AV) (m : Mem) (fc : Nat) : Option (AV × Mem) :=
  sBox t0 (u, fc, 1) m fun t1 m_1 =>
  sAlloc x2v (u, fc + 1, 2) m_1 fun t2 m_2 =>
  (sLd true 2 t1 m_2).bind fun t7 =>
  (sCall0 call x1b [t7] m_2).bind fun p8 =>
  (sExt p8.1 0).bind fun t9 =>
  (sExt p8.1 1).bind fun t10 =>
  (sLd true 2 t1 p8.2).bind fun t11 =>
  (sBuild x2v [(0, 2, t11)]).bind fun t12 =>
  sSt 2 t2 t12 p8.2 fun m_3 =>
  (sLdP true 2 t2 m_3).bind fun r0 =>
  some (AV.tup [r0, t10], m_3)
noncomputable def x70 (call : FCall) (hs : FHs) (args : List AV) (m : Mem) : Option (AV × Mem) :=
  match args with
  | [t0] => xcd call hs m.next t0 ⟨m.hp, m.next + 1⟩ 0
  | _ => none

noncomputable def x1q (call : FCall) (hs : FHs) (u : Nat) (t3 : AV) (m : Mem) (fc : Nat) : Option (AV × Mem) :=
  some (t3, m)
noncomputable def x2x (call : FCall) (hs : FHs) (u : Nat) (rec0 : AV → AV → AV → AV → AV → Mem → Nat → Option (AV × Mem)) (t3 t6 t26 t27 t28 : AV) (m : Mem) (fc : Nat) : Option (AV × Mem) :=
  (sAdd t28 (I 1)).bind fun t62 =>
  rec0 t3 t6 t26 t27 t62 m (fc + 2)
noncomputable def x59 (call : FCall) (hs : FHs) (u : Nat) (rec0 : AV → AV → AV → AV → AV → Mem → Nat → Option (AV × Mem)) (t3 t6 t7 t8 t26 t27 t28 : AV) (m : Mem) (fc : Nat) : Option (AV × Mem) :=
  (sNil t3).bind fun t51 =>
  (sFA 3 t51).bind fun t52 =>
  (sLd false 1 t52 m).bind fun t53 =>
  (sIx 1 t53 t7).bind fun t55 =>
  (sLd false 1 t55 m).bind fun t56 =>
  (sLook Try.prog x5a t6 t8 false m).bind fun t59 =>
  (sSub t56 t59).bind fun t60 =>
  (sIx 1 t53 t7).bind fun t61 =>
  sSt 1 t61 t60 m fun m_1 =>
  x2x call hs u rec0 t3 t6 t26 t27 t28 m_1 (fc + 13)
noncomputable def x9y (call : FCall) (hs : FHs) (u : Nat) (rec0 : AV → AV → AV → AV → AV → Mem → Nat → Option (AV × Mem)) (t3 t6 t7 t8 t26 t27 t28 : AV) (m : Mem) (fc : Nat) : Option (AV × Mem) :=
  (sLook Try.prog x5a t6 t8 true m).bind fun t36 =>
  (sExt t36 0).bind fun t37 =>
  (sExt t36 1).bind fun t38 =>
  (sNot t38).bind fun t40 =>
  sCond t40
  ((sNil t3).bind fun t44 =>
  (sFA 3 t44).bind fun t45 =>
  (sLd false 1 t45 m).bind fun t46 =>
  (sIx 1 t46 t7).bind fun t48 =>
  (sLd false 1 t48 m).bind fun t49 =>
  sMapUp Try.prog x5a t6 t8 t49 m fun m_2 =>
  x59 call hs u rec0 t3 t6 t7 t8 t26 t27 t28 m_2 (fc + 20))
  (x59 call hs u rec0 t3 t6 t7 t8 t26 t27 t28 m (fc + 10))
noncomputable def x8x (call : FCall) (hs : FHs) (u : Nat) (rec0 : AV → AV → AV → AV → AV → Mem → Nat → Option (AV × Mem)) (t3 t6 t26 t27 t28 : AV) (m : Mem) (fc : Nat) : Option (AV × Mem) :=
  (sIx 1 t26 t28).bind fun t31 =>
  (sLd false 1 t31 m).bind fun t32 =>
  x9y call hs u rec0 t3 t6 t28 t32 t26 t27 t28 m (fc + 5)
noncomputable def x9z (call : FCall) (hs : FHs) (u : Nat) (rec0 : AV → AV → AV → AV → AV → Mem → Nat → Option (AV × Mem)) (t3 t6 t26 t27 t28 : AV) (m : Mem) (fc : Nat) : Option (AV × Mem) :=
  (sLt t28 t27).bind fun t29 =>
  sCond t29
  (x8x call hs u rec0 t3 t6 t26 t27 t28 m (fc + 1))
  (x1q call hs u t3 m (fc + 1))
noncomputable def x2a (call : FCall) (hs : FHs) (u : Nat) : Nat → AV → AV → AV → AV → AV → Mem → Nat → Option (AV × Mem)
  | 0 => fun _ _ _ _ _ _ _ => none
  | n + 1 => fun t3 t6 t26 t27 t28 m fc => x9z call hs u (x2a call hs u n) t3 t6 t26 t27 t28 m fc
noncomputable def xa0 (call : FCall) (hs : FHs) (u : Nat) (t3 t5 t6 : AV) (m : Mem) (fc : Nat) : Option (AV × Mem) :=
  (sLen Try.prog x6 t5).bind fun t27 =>
  x2a call hs u NN t3 t6 t5 t27 (I 0) m (fc + 3)
noncomputable def x3s (call : FCall) (hs : FHs) (u : Nat) (t1 t3 : AV) (m : Mem) (fc : Nat) : Option (AV × Mem) :=
  (sLd true 2 t1 m).bind fun t23 =>
  (sCall0 call xr [t23] m).bind fun p24 =>
  sMkMap (u, fc + 3, 25) p24.2 fun t25 m_3 =>
  xa0 call hs u t3 p24.1 t25 m_3 (fc + 5)
noncomputable def xce (call : FCall) (hs : FHs) (u : Nat) (rec1 : AV → AV → Mem → Nat → Option (AV × Mem)) (t1 t3 : AV) (m : Mem) (fc : Nat) : Option (AV × Mem) :=
  (sNil t3).bind fun t14 =>
  (sFA 4 t14).bind fun t15 =>
  (sLd false 1 t15 m).bind fun t16 =>
  (call hs x19 [t16, (AV.clo x2r [])] m).bind fun p17 =>
  (sLt p17.1 (I 0)).bind fun t19 =>
  sCond t19
  (x3s call hs u t1 t3 p17.2 (fc + 8))
  ((call hs x7 [t3, p17.1] p17.2).bind fun p22 =>
  rec1 t1 t3 p22.2 (fc + 11))
noncomputable def x2l (call : FCall) (hs : FHs) (u : Nat) : Nat → AV → AV → Mem → Nat → Option (AV × Mem)
  | 0 => fun _ _ _ _ => none
  | n + 1 => fun t1 t3 m fc => xce call hs u (x2l call hs u n) t1 t3 m fc
noncomputable def xa1 (call : FCall) (hs : FHs) (u : Nat) (t0 : AV) (m : Mem) (fc : Nat) : Option (AV × Mem) :=
  sBox t0 (u, fc, 1) m fun t1 m_4 =>
  (sLd true 2 t1 m_4).bind fun t11 =>
  (sCall1 call xi [t11] m_4).bind fun p12 =>
  x2l call hs u NN t1 p12.1 p12.2 (fc + 5)
noncomputable def x8d (call : FCall) (hs : FHs) (args : List AV) (m : Mem) : Option (AV × Mem) :=
  match args with
  | [t0] => xa1 call hs m.next t0 ⟨m.hp, m.next + 1⟩ 0
  | _ => none

noncomputable def x4f (call : FCall) (hs : FHs) (u : Nat) (t5 : AV) (m : Mem) (fc : Nat) : Option (AV × Mem) :=
  some (t5, m)
noncomputable def xa2 (call : FCall) (hs : FHs) (u : Nat) (rec0 : AV → AV → AV → AV → AV → Mem → Nat → Option (AV × Mem)) (t1 t5 t10 t11 t12 : AV) (m : Mem) (fc : Nat) : Option (AV × Mem) :=
  (sLt t12 t11).bind fun t13 =>
  sCond t13
  ((sIx 4 t10 t12).bind fun t14 =>
  (sLd true 4 t14 m).bind fun t15 =>
  sAlloc x1o (u, fc + 3, 7) m fun t7 m_1 =>
  sSt 4 t7 t15 m_1 fun m_2 =>
  (sFA 3 t7).bind fun t17 =>
  (sLd false 1 t17 m_2).bind fun t18 =>
  (sLd true 4 t7 m_2).bind fun t19 =>
  (sCall0 call x4z [t19, t1] m_2).bind fun p21 =>
  (sCall0 call x50 [p21.1] p21.2).bind fun p22 =>
  (sMul t18 p22.1).bind fun t23 =>
  (sAdd t5 t23).bind fun t24 =>
  bif (Nat.ble 1 (mkM 0 [t19, t1]) && (Nat.ble 1 (mkM 0 [p21.1]) && true)) && (cAp none (tR t17) (mkM 0 [t19, t1]) && (cAp none (tR t17) (mkM 0 [p21.1]) && true)) then
  (sAdd t12 (I 1)).bind fun t25 =>
  rec0 t1 t24 t10 t11 t25 p22.2 (fc + 17) else none)
  (x4f call hs u t5 m (fc + 1))
noncomputable def x4g (call : FCall) (hs : FHs) (u : Nat) : Nat → AV → AV → AV → AV → AV → Mem → Nat → Option (AV × Mem)
  | 0 => fun _ _ _ _ _ _ _ => none
  | n + 1 => fun t1 t5 t10 t11 t12 m fc => xa2 call hs u (x4g call hs u n) t1 t5 t10 t11 t12 m fc
noncomputable def x8y (call : FCall) (hs : FHs) (u : Nat) (t1 t2 t5 : AV) (m : Mem) (fc : Nat) : Option (AV × Mem) :=
  (sFA 0 t2).bind fun t8 =>
  (sFA 1 t8).bind fun t9 =>
  (sLd false 1 t9 m).bind fun t10 =>
  (sLen Try.prog x1c t10).bind fun t11 =>
  x4g call hs u NN t1 t5 t10 t11 (I 0) m (fc + 5)
noncomputable def xa3 (call : FCall) (hs : FHs) (u : Nat) (t0 t1 : AV) (m : Mem) (fc : Nat) : Option (AV × Mem) :=
  sBox t0 (u, fc, 2) m fun t2 m_3 =>
  x8y call hs u t1 t2 (I 0) m_3 (fc + 3)
noncomputable def x5y (call : FCall) (hs : FHs) (args : List AV) (m : Mem) : Option (AV × Mem) :=
  match args with
  | [t0, t1] => xa3 call hs m.next t0 t1 ⟨m.hp, m.next + 1⟩ 0
  | _ => none

noncomputable def x4h (call : FCall) (hs : FHs) (u : Nat) (m : Mem) (fc : Nat) : Option (AV × Mem) :=
  some (AV.tup [(I 0), (I 0)], m)
noncomputable def xa4 (call : FCall) (hs : FHs) (u : Nat) (rec0 : AV → AV → Mem → Nat → Option (AV × Mem)) (t1 t4 : AV) (m : Mem) (fc : Nat) : Option (AV × Mem) :=
  (sFA 1 t1).bind fun t15 =>
  (sLd false 1 t15 m).bind fun t16 =>
  (sLen Try.prog x1c t16).bind fun t17 =>
  (sLt t4 t17).bind fun t18 =>
  sCond t18
  ((sFA 1 t1).bind fun t21 =>
  (sLd false 1 t21 m).bind fun t22 =>
  (sIx 4 t22 t4).bind fun t24 =>
  (sLd true 4 t24 m).bind fun t25 =>
  sAlloc x1o (u, fc + 10, 5) m fun t5 m_1 =>
  sSt 4 t5 t25 m_1 fun m_2 =>
  (sFA 0 t5).bind fun t26 =>
  (sLd false 1 t26 m_2).bind fun t27 =>
  (sFA 0 t1).bind fun t28 =>
  (sLd false 1 t28 m_2).bind fun t29 =>
  (sSub t29 (I 1)).bind fun t30 =>
  (sCall0 call x15 [t27, (I 0), t30] m_2).bind fun p31 =>
  (sNot p31.1).bind fun t32 =>
  (bif sW t32 false then (sFA 1 t5).bind fun v => some (v, p31.2) else some (U, p31.2)).bind fun p34 =>
  (bif sW t32 false then (sLd false 1 p34.1 p34.2).bind fun v => some (v, p34.2) else some (U, p34.2)).bind fun p35 =>
  (bif sW t32 false then (sFA 0 t1).bind fun v => some (v, p35.2) else some (U, p35.2)).bind fun p36 =>
  (bif sW t32 false then (sLd false 1 p36.1 p36.2).bind fun v => some (v, p36.2) else some (U, p36.2)).bind fun p37 =>
  (bif sW t32 false then (sSub p37.1 (I 1)).bind fun v => some (v, p37.2) else some (U, p37.2)).bind fun p38 =>
  (bif sW t32 false then (sCall0 call x15 [p35.1, (I 0), p38.1] p38.2).bind fun p => some (p.1, p.2) else some (U, p38.2)).bind fun p39 =>
  (bif sW t32 false then (sNot p39.1).bind fun v => some (v, p39.2) else some (U, p39.2)).bind fun p40 =>
  (sPick t32 (B true) p40.1).bind fun t41 =>
  sCond t41
  (some (AV.tup [t4, (I 6)], p40.2))
  ((sFA 0 t5).bind fun t43 =>
  (sLd false 1 t43 p40.2).bind fun t44 =>
  (sFA 1 t5).bind fun t45 =>
  (sLd false 1 t45 p40.2).bind fun t46 =>
  (sEq t44 t46).bind fun t47 =>
  sCond t47
  (some (AV.tup [t4, (I 3)], p40.2))
  ((sFA 2 t5).bind fun t49 =>
  (sLd false 1 t49 p40.2).bind fun t50 =>
  (sCall0 call x15 [t50, (I (-1000)), (I 1000)] p40.2).bind fun p51 =>
  (sNot p51.1).bind fun t52 =>
  (bif sW t52 false then (sFA 3 t5).bind fun v => some (v, p51.2) else some (U, p51.2)).bind fun p54 =>
  (bif sW t52 false then (sLd false 1 p54.1 p54.2).bind fun v => some (v, p54.2) else some (U, p54.2)).bind fun p55 =>
  (bif sW t52 false then (sCall0 call x15 [p55.1, (I 0), (I 1000)] p55.2).bind fun p => some (p.1, p.2) else some (U, p55.2)).bind fun p56 =>
  (bif sW t52 false then (sNot p56.1).bind fun v => some (v, p56.2) else some (U, p56.2)).bind fun p57 =>
  (sPick t52 (B true) p57.1).bind fun t58 =>
  sCond t58
  (some (AV.tup [t4, (I 2)], p57.2))
  ((sAdd t4 (I 1)).bind fun t20 =>
  rec0 t1 t20 p57.2 (fc + 46)))))
  (x4h call hs u m (fc + 5))
noncomputable def x4i (call : FCall) (hs : FHs) (u : Nat) : Nat → AV → AV → Mem → Nat → Option (AV × Mem)
  | 0 => fun _ _ _ _ => none
  | n + 1 => fun t1 t4 m fc => xa4 call hs u (x4i call hs u n) t1 t4 m fc
noncomputable def xa5 (call : FCall) (hs : FHs) (u : Nat) (t1 : AV) (m : Mem) (fc : Nat) : Option (AV × Mem) :=
  x4i call hs u NN t1 (I 0) m (fc + 1)
noncomputable def xcf (call : FCall) (hs : FHs) (u : Nat) (t0 : AV) (m : Mem) (fc : Nat) : Option (AV × Mem) :=
  sBox t0 (u, fc, 1) m fun t1 m_3 =>
  (sFA 0 t1).bind fun t6 =>
  (sLd false 1 t6 m_3).bind fun t7 =>
  (sCall0 call x15 [t7, (I 0), (I 200)] m_3).bind fun p8 =>
  (sNot p8.1).bind fun t9 =>
  sCond t9
  (some (AV.tup [(I 0), (I 2)], p8.2))
  ((sFA 1 t1).bind fun t10 =>
  (sLd false 1 t10 p8.2).bind fun t11 =>
  (sLen Try.prog x1c t11).bind fun t12 =>
  (sGt t12 (I 600)).bind fun t13 =>
  sCond t13
  (some (AV.tup [(I 0), (I 8)], p8.2))
  (xa5 call hs u t1 p8.2 (fc + 11)))
noncomputable def x71 (call : FCall) (hs : FHs) (args : List AV) (m : Mem) : Option (AV × Mem) :=
  match args with
  | [t0] => xcf call hs m.next t0 ⟨m.hp, m.next + 1⟩ 0
  | _ => none

noncomputable def x7i (call : FCall) (hs : FHs) (u : Nat) (t2 t4 : AV) (m : Mem) (fc : Nat) : Option (AV × Mem) :=
  (sLd true 2 t4 m).bind fun t70 =>
  sSt 2 t2 t70 m fun m_1 =>
  (sLdP true 2 t2 m_1).bind fun r0 =>
  some (r0, m_1)
noncomputable def xcg (call : FCall) (hs : FHs) (u : Nat) (t3 t4 t5 t6 t7 : AV) (m : Mem) (fc : Nat) : Option Mem :=
  (sFA 2 t3).bind fun t29 =>
  (sLd false 1 t29 m).bind fun t30 =>
  (sIxA 2 1 t7 (I 0)).bind fun t31 =>
  (sLd false 1 t31 m).bind fun t32 =>
  (sIx 1 t30 t32).bind fun t33 =>
  (sLd false 1 t33 m).bind fun t34 =>
  (sFA 2 t3).bind fun t35 =>
  (sLd false 1 t35 m).bind fun t36 =>
  (sIxA 2 1 t7 (I 1)).bind fun t37 =>
  (sLd false 1 t37 m).bind fun t38 =>
  (sIx 1 t36 t38).bind fun t39 =>
  (sLd false 1 t39 m).bind fun t40 =>
  (sCall0 call x3o [t34] m).bind fun p42 =>
  (bif sW p42.1 false then some (t40, p42.2) else some (U, p42.2)).bind fun p44 =>
  (bif sW p42.1 false then (sCall0 call x3o [p44.1] p44.2).bind fun p => some (p.1, p.2) else some (U, p44.2)).bind fun p45 =>
  (sPick p42.1 (B true) p45.1).bind fun t46 =>
  sCond t46
  (some p45.2)
  ((sFA 1 t4).bind fun t47 =>
  (sLd false 1 t47 p45.2).bind fun t48 =>
  (sIxA 2 1 t7 (I 0)).bind fun t49 =>
  (sLd false 1 t49 p45.2).bind fun t50 =>
  (sIxA 2 1 t7 (I 1)).bind fun t51 =>
  (sLd false 1 t51 p45.2).bind fun t52 =>
  (sSub t40 t34).bind fun t55 =>
  (sSub t40 t34).bind fun t58 =>
  (sCall0 call x21 [t58] p45.2).bind fun p59 =>
  (sSub t55 p59.1).bind fun t60 =>
  (sQuo t60 (I 4096)).bind fun t61 =>
  (sLd false 1 t5 p59.2).bind fun t62 =>
  (sIx 1 t62 t6).bind fun t64 =>
  (sLd false 1 t64 p59.2).bind fun t65 =>
  (sBuild x1o [(0, 1, t50), (1, 1, t52), (2, 1, t61), (3, 1, t65)]).bind fun t66 =>
  sMkLit x1o [(0, 4, t66)] 1 4 (u, fc + 40, 67) p59.2 fun t67 m_2 =>
  sApp 4 32 (u, fc + 41, 68) (elems m_2.get 4 t67) t48 m_2 fun t68 m_3 =>
  (sFA 1 t4).bind fun t69 =>
  sSt 1 t69 t68 m_3 fun m_4 =>
  bif (Nat.ble 1 (mkM 0 [t58]) && true) && (cAp none (tR t47) (mkM 0 [t58]) && (cAp none (tR t49) (mkM 0 [t58]) && (cAp none (tR t51) (mkM 0 [t58]) && (cAp (some p45.2.next) (tR t5) (mkM 0 [t58]) && (cAp (some p45.2.next) (tR t64) (mkM 0 [t58]) && (apartIds (tR t47) (some [], some [(u, fc + 40, 67)]) && true)))))) then
  some m_4 else none)
noncomputable def xch (call : FCall) (hs : FHs) (u : Nat) (t3 t4 t5 t27 t28 : AV) (m : Mem) (fc : Nat) : Option Mem :=
  sAlloc x8z (u, fc + 1, 7) m fun t7 m_5 =>
  sSt 2 t7 t28 m_5 fun m_6 =>
  xcg call hs u t3 t4 t5 t27 t7 m_6 (fc + 3)
noncomputable def xci (call : FCall) (hs : FHs) (u : Nat) (t2 t3 t4 t5 t26 : AV) (m : Mem) (fc : Nat) : Option (AV × Mem) :=
  sRng t26 fun g caps =>
  (call (((u, fc, 0), fun args m => bif Nat.beq args.length 2 && true then xch call hs m.next t3 t4 t5 (args.getD 0 U) (args.getD 1 U) ⟨m.hp, m.next + 1⟩ 0 else none) :: hs) g (.yld (u, fc, 0) :: caps) m).bind fun p => x7i call hs u t2 t4 p.2 (fc + 1)
noncomputable def xcj (call : FCall) (hs : FHs) (u : Nat) (t2 t3 t4 t5 : AV) (m : Mem) (fc : Nat) : Option (AV × Mem) :=
  (sFA 0 t3).bind fun t22 =>
  (sLd false 1 t22 m).bind fun t23 =>
  (sFA 1 t3).bind fun t24 =>
  (sLd false 1 t24 m).bind fun t25 =>
  (sCall0 call x65 [t23, t25] m).bind fun p26 =>
  xci call hs u t2 t3 t4 t5 p26.1 p26.2 (fc + 5)
noncomputable def xkg (call : FCall) (hs : FHs) (u : Nat) (t0 : AV) (m : Mem) (fc : Nat) : Option (AV × Mem) :=
  sBox t0 (u, fc, 1) m fun t1 m_7 =>
  sAlloc x56 (u, fc + 1, 2) m_7 fun t2 m_8 =>
  (sFA 0 t1).bind fun t10 =>
  (sLd true 3 t10 m_8).bind fun t11 =>
  sAlloc x55 (u, fc + 4, 3) m_8 fun t3 m_9 =>
  sSt 3 t3 t11 m_9 fun m_10 =>
  (sFA 2 t3).bind fun t12 =>
  (sLd false 1 t12 m_10).bind fun t13 =>
  (sLen Try.prog x6 t13).bind fun t14 =>
  (sBuild x56 [(0, 1, t14)]).bind fun t15 =>
  sAlloc x56 (u, fc + 10, 4) m_10 fun t4 m_11 =>
  sSt 2 t4 t15 m_11 fun m_12 =>
  (sFA 3 t1).bind fun t16 =>
  (sLd false 1 t16 m_12).bind fun t17 =>
  (sFA 4 t1).bind fun t18 =>
  (sLd false 1 t18 m_12).bind fun t19 =>
  sMkLit x2k [(0, 1, t17), (1, 1, t19)] 2 1 (u, fc + 16, 20) m_12 fun t20 m_13 =>
  (sCall0 call xd [t20] m_13).bind fun p21 =>
  sAlloc x2k (u, fc + 18, 5) p21.2 fun t5 m_14 =>
  sSt 1 t5 p21.1 m_14 fun m_15 =>
  xcj call hs u t2 t3 t4 t5 m_15 (fc + 20)
noncomputable def x8e (call : FCall) (hs : FHs) (args : List AV) (m : Mem) : Option (AV × Mem) :=
  match args with
  | [t0] => xkg call hs m.next t0 ⟨m.hp, m.next + 1⟩ 0
  | _ => none

noncomputable def xkh (call : FCall) (hs : FHs) (u : Nat) (t0 t1 t2 : AV) (m : Mem) (fc : Nat) : Option (AV × Mem) :=
  (sCall0 call x1e [t0, (I 1), (I 64)] m).bind fun p9 =>
  (sNot p9.1).bind fun t10 =>
  (bif sW t10 false then some (t1, p9.2) else some (U, p9.2)).bind fun p12 =>
  (bif sW t10 false then (sCall0 call x1e [p12.1, (I 1), (I 64)] p12.2).bind fun p => some (p.1, p.2) else some (U, p12.2)).bind fun p13 =>
  (bif sW t10 false then (sNot p13.1).bind fun v => some (v, p13.2) else some (U, p13.2)).bind fun p14 =>
  (sPick t10 (B true) p14.1).bind fun t15 =>
  sCond t15
  (some ((I 2), p14.2))
  ((sMul t0 t1).bind fun t20 =>
  (sNe t2 t20).bind fun t21 =>
  sCond t21
  (some ((I 10), p14.2))
  (some ((I 0), p14.2)))
noncomputable def x8f (call : FCall) (hs : FHs) (args : List AV) (m : Mem) : Option (AV × Mem) :=
  match args with
  | [t0, t1, t2] => xkh call hs m.next t0 t1 t2 ⟨m.hp, m.next + 1⟩ 0
  | _ => none

noncomputable def xki (call : FCall) (hs : FHs) (u : Nat) (t0 t1 : AV) (m : Mem) (fc : Nat) : Option (AV × Mem) :=
  sBox t0 (u, fc, 2) m fun t2 m_1 =>
  sBox t1 (u, fc + 1, 3) m_1 fun t3 m_2 =>
  (sFA 2 t2).bind fun t5 =>
  (sLd false 1 t5 m_2).bind fun t6 =>
  (call hs x2j [t6, (AV.clo x66 [t3])] m_2).bind fun p8 =>
  sCond p8.1
  (some ((I 2), p8.2))
  (some ((I 0), p8.2))
noncomputable def x8g (call : FCall) (hs : FHs) (args : List AV) (m : Mem) : Option (AV × Mem) :=
  match args with
  | [t0, t1] => xki call hs m.next t0 t1 ⟨m.hp, m.next + 1⟩ 0
  | _ => none

noncomputable def xkj (call : FCall) (hs : FHs) (u : Nat) (t0 : AV) (m : Mem) (fc : Nat) : Option (AV × Mem) :=
  (sCall0 call x21 [t0] m).bind fun p5 =>
  (sEq t0 p5.1).bind fun t6 =>
  some (t6, p5.2)
noncomputable def x8h (call : FCall) (hs : FHs) (args : List AV) (m : Mem) : Option (AV × Mem) :=
  match args with
  | [t0] => xkj call hs m.next t0 ⟨m.hp, m.next + 1⟩ 0
  | _ => none

noncomputable def x3t (call : FCall) (hs : FHs) (u : Nat) (t6 : AV) (m : Mem) (fc : Nat) : Option (AV × Mem) :=
  some (t6, m)
noncomputable def xa6 (call : FCall) (hs : FHs) (u : Nat) (rec0 : AV → AV → AV → AV → Mem → Nat → Option (AV × Mem)) (t6 t25 t26 t27 : AV) (m : Mem) (fc : Nat) : Option (AV × Mem) :=
  (sLt t27 t26).bind fun t28 =>
  sCond t28
  ((sIx 1 t25 t27).bind fun t29 =>
  (sLd false 1 t29 m).bind fun t30 =>
  sApp 1 8 (u, fc + 6, 33) (elems m.get 1 t30) t6 m fun t33 m_1 =>
  (sAdd t27 (I 1)).bind fun t34 =>
  rec0 t33 t25 t26 t34 m_1 (fc + 10))
  (x3t call hs u t6 m (fc + 1))
noncomputable def x5b (call : FCall) (hs : FHs) (u : Nat) : Nat → AV → AV → AV → AV → Mem → Nat → Option (AV × Mem)
  | 0 => fun _ _ _ _ _ _ => none
  | n + 1 => fun t6 t25 t26 t27 m fc => xa6 call hs u (x5b call hs u n) t6 t25 t26 t27 m fc
noncomputable def x90 (call : FCall) (hs : FHs) (u : Nat) (t0 t6 : AV) (m : Mem) (fc : Nat) : Option (AV × Mem) :=
  (sLen Try.prog x91 t0).bind fun t26 =>
  x5b call hs u NN t6 t0 t26 (I 0) m (fc + 3)
noncomputable def x2b (call : FCall) (hs : FHs) (u : Nat) (t0 t3 : AV) (m : Mem) (fc : Nat) : Option (AV × Mem) :=
  (sCall1 call x1y [nilS, t3] m).bind fun p24 =>
  x90 call hs u t0 p24.1 p24.2 (fc + 3)
noncomputable def xa7 (call : FCall) (hs : FHs) (u : Nat) (rec1 : AV → AV → AV → AV → AV → Mem → Nat → Option (AV × Mem)) (t0 t3 t9 t10 t11 : AV) (m : Mem) (fc : Nat) : Option (AV × Mem) :=
  (sAdd t11 (I 1)).bind fun t22 =>
  rec1 t0 t3 t9 t10 t22 m (fc + 2)
noncomputable def xa8 (call : FCall) (hs : FHs) (u : Nat) (rec1 : AV → AV → AV → AV → AV → Mem → Nat → Option (AV × Mem)) (t0 t3 t9 t10 t11 : AV) (m : Mem) (fc : Nat) : Option (AV × Mem) :=
  (sIx 1 t9 t11).bind fun t13 =>
  (sLd false 1 t13 m).bind fun t14 =>
  (sLen Try.prog x6 t14).bind fun t17 =>
  (sAdd t3 t17).bind fun t18 =>
  (sLt t18 (I 0)).bind fun t20 =>
  sCond t20
  (none)
  (xa7 call hs u rec1 t0 t18 t9 t10 t11 m (fc + 10))
noncomputable def xck (call : FCall) (hs : FHs) (u : Nat) (rec1 : AV → AV → AV → AV → AV → Mem → Nat → Option (AV × Mem)) (t0 t3 t9 t10 t11 : AV) (m : Mem) (fc : Nat) : Option (AV × Mem) :=
  (sLt t11 t10).bind fun t12 =>
  sCond t12
  (xa8 call hs u rec1 t0 t3 t9 t10 t11 m (fc + 1))
  (x2b call hs u t0 t3 m (fc + 1))
noncomputable def x69 (call : FCall) (hs : FHs) (u : Nat) : Nat → AV → AV → AV → AV → AV → Mem → Nat → Option (AV × Mem)
  | 0 => fun _ _ _ _ _ _ _ => none
  | n + 1 => fun t0 t3 t9 t10 t11 m fc => xck call hs u (x69 call hs u n) t0 t3 t9 t10 t11 m fc
noncomputable def xa9 (call : FCall) (hs : FHs) (u : Nat) (t0 t3 : AV) (m : Mem) (fc : Nat) : Option (AV × Mem) :=
  (sLen Try.prog x91 t0).bind fun t10 =>
  x69 call hs u NN t0 t3 t0 t10 (I 0) m (fc + 3)
noncomputable def xcl (call : FCall) (hs : FHs) (u : Nat) (t0 : AV) (m : Mem) (fc : Nat) : Option (AV × Mem) :=
  xa9 call hs u t0 (I 0) m (fc + 2)
noncomputable def x72 (call : FCall) (hs : FHs) (args : List AV) (m : Mem) : Option (AV × Mem) :=
  match args with
  | [t0] => xcl call hs m.next t0 ⟨m.hp, m.next + 1⟩ 0
  | _ => none

noncomputable def xcm (call : FCall) (hs : FHs) (u : Nat) (t0 : AV) (m : Mem) (fc : Nat) : Option (AV × Mem) :=
  (sCall0 call x1e [t0, (I 0), (I 1000)] m).bind fun p4 =>
  some (p4.1, p4.2)
noncomputable def x73 (call : FCall) (hs : FHs) (args : List AV) (m : Mem) : Option (AV × Mem) :=
  match args with
  | [t0] => xcm call hs m.next t0 ⟨m.hp, m.next + 1⟩ 0
  | _ => none

noncomputable def xcn (call : FCall) (hs : FHs) (u : Nat) (t0 t1 t2 : AV) (m : Mem) (fc : Nat) : Option (AV × Mem) :=
  (sGe t0 t1).bind fun t9 =>
  (bif sW t9 true then some (t0, m) else some (U, m)).bind fun p11 =>
  (bif sW t9 true then some (t2, p11.2) else some (U, p11.2)).bind fun p12 =>
  (bif sW t9 true then (sLe p11.1 p12.1).bind fun v => some (v, p12.2) else some (U, p12.2)).bind fun p13 =>
  (sPick t9 p13.1 (B false)).bind fun t14 =>
  some (t14, p13.2)
noncomputable def x6f (call : FCall) (hs : FHs) (args : List AV) (m : Mem) : Option (AV × Mem) :=
  match args with
  | [t0, t1, t2] => xcn call hs m.next t0 t1 t2 ⟨m.hp, m.next + 1⟩ 0
  | _ => none

noncomputable def x2c (call : FCall) (hs : FHs) (u : Nat) (t1 t3 : AV) (m : Mem) (fc : Nat) : Option (AV × Mem) :=
  (sFA 0 t1).bind fun t48 =>
  (sFA 0 t48).bind fun t49 =>
  (sLd false 1 t49 m).bind fun t50 =>
  (call hs xa [t50, (AV.clo x20 [t3])] m).bind fun p52 =>
  some (p52.1, p52.2)
noncomputable def x7j (call : FCall) (hs : FHs) (u : Nat) (rec0 : AV → AV → AV → AV → AV → Mem → Nat → Option (AV × Mem)) (t1 t3 t12 t13 t14 : AV) (m : Mem) (fc : Nat) : Option (AV × Mem) :=
  (sAdd t14 (I 1)).bind fun t47 =>
  rec0 t1 t3 t12 t13 t47 m (fc + 2)
noncomputable def x92 (call : FCall) (hs : FHs) (u : Nat) (rec0 : AV → AV → AV → AV → AV → Mem → Nat → Option (AV × Mem)) (t1 t3 t12 t13 t14 : AV) (m : Mem) (fc : Nat) : Option (AV × Mem) :=
  (sIx 4 t12 t14).bind fun t16 =>
  (sLd true 4 t16 m).bind fun t17 =>
  sAlloc x1o (u, fc + 2, 5) m fun t5 m_1 =>
  sSt 4 t5 t17 m_1 fun m_2 =>
  (sFA 3 t5).bind fun t18 =>
  (sLd false 1 t18 m_2).bind fun t19 =>
  (sGt t19 (I 0)).bind fun t20 =>
  sCond t20
  ((sLd false 1 t3 m_2).bind fun t21 =>
  (sFA 0 t5).bind fun t22 =>
  (sLd false 1 t22 m_2).bind fun t23 =>
  (sLd false 1 t3 m_2).bind fun t24 =>
  (sFA 1 t5).bind fun t25 =>
  (sLd false 1 t25 m_2).bind fun t26 =>
  (sLd false 1 t3 m_2).bind fun t27 =>
  (sFA 0 t5).bind fun t28 =>
  (sLd false 1 t28 m_2).bind fun t29 =>
  (sIx 1 t27 t29).bind fun t30 =>
  (sLd false 1 t30 m_2).bind fun t31 =>
  (sFA 1 t5).bind fun t32 =>
  (sLd false 1 t32 m_2).bind fun t33 =>
  sMkLit z_int [(0, 1, t33)] 1 1 (u, fc + 20, 34) m_2 fun t34 m_3 =>
  sApp 1 8 (u, fc + 21, 35) (elems m_3.get 1 t34) t31 m_3 fun t35 m_4 =>
  (sLd false 1 t3 m_4).bind fun t36 =>
  (sFA 1 t5).bind fun t37 =>
  (sLd false 1 t37 m_4).bind fun t38 =>
  (sIx 1 t36 t38).bind fun t39 =>
  (sLd false 1 t39 m_4).bind fun t40 =>
  (sFA 0 t5).bind fun t41 =>
  (sLd false 1 t41 m_4).bind fun t42 =>
  sMkLit z_int [(0, 1, t42)] 1 1 (u, fc + 29, 43) m_4 fun t43 m_5 =>
  sApp 1 8 (u, fc + 30, 44) (elems m_5.get 1 t43) t40 m_5 fun t44 m_6 =>
  (sIx 1 t21 t23).bind fun t45 =>
  sSt 1 t45 t35 m_6 fun m_7 =>
  (sIx 1 t24 t26).bind fun t46 =>
  sSt 1 t46 t44 m_7 fun m_8 =>
  bif (apartIds (tR t3) (some [], some [(u, fc + 20, 34)]) && (apartIds (tR t22) (some [], some [(u, fc + 20, 34)]) && (apartIds (tR t3) (some [], some [(u, fc + 20, 34)]) && (apartIds (tR t25) (some [], some [(u, fc + 20, 34)]) && (apartIds (tR t3) (some [], some [(u, fc + 20, 34)]) && (apartIds (tR t28) (some [], some [(u, fc + 20, 34)]) && (apartIds (tR t30) (some [], some [(u, fc + 20, 34)]) && (apartIds (tR t3) (tX t34, tA (u, fc + 21, 35) t31) && (apartIds (tR t22) (tX t34, tA (u, fc + 21, 35) t31) && (apartIds (tR t3) (tX t34, tA (u, fc + 21, 35) t31) && (apartIds (tR t25) (tX t34, tA (u, fc + 21, 35) t31) && (apartIds (some [], some [(u, fc + 20, 34)]) (tR t3) && (apartIds (tX t34, tA (u, fc + 21, 35) t31) (tR t3) && (apartIds (some [], some [(u, fc + 20, 34)]) (tR t37) && (apartIds (tX t34, tA (u, fc + 21, 35) t31) (tR t37) && (apartIds (some [], some [(u, fc + 20, 34)]) (tR t39) && (apartIds (tX t34, tA (u, fc + 21, 35) t31) (tR t39) && (apartIds (some [], some [(u, fc + 20, 34)]) (tR t41) && (apartIds (tX t34, tA (u, fc + 21, 35) t31) (tR t41) && (apartIds (tR t3) (some [], some [(u, fc + 29, 43)]) && (apartIds (tR t22) (some [], some [(u, fc + 29, 43)]) && (apartIds (tR t3) (some [], some [(u, fc + 29, 43)]) && (apartIds (tR t25) (some [], some [(u, fc + 29, 43)]) && (apartIds (tR t3) (some [], some [(u, fc + 29, 43)]) && (apartIds (tR t28) (some [], some [(u, fc + 29, 43)]) && (apartIds (tR t30) (some [], some [(u, fc + 29, 43)]) && (apartIds (tR t32) (some [], some [(u, fc + 29, 43)]) && (apartIds (some [], some [(u, fc + 20, 34)]) (some [], some [(u, fc + 29, 43)]) && (apartIds (tX t34, tA (u, fc + 21, 35) t31) (some [], some [(u, fc + 29, 43)]) && (apartIds (tR t3) (some [], some [(u, fc + 29, 43)]) && (apartIds (tR t37) (some [], some [(u, fc + 29, 43)]) && (apartIds (tR t39) (some [], some [(u, fc + 29, 43)]) && (apartIds (tR t3) (tX t43, tA (u, fc + 30, 44) t40) && (apartIds (tR t22) (tX t43, tA (u, fc + 30, 44) t40) && (apartIds (tR t3) (tX t43, tA (u, fc + 30, 44) t40) && (apartIds (tR t25) (tX t43, tA (u, fc + 30, 44) t40) && (apartIds (tR t3) (tS t45) && (apartIds (tR t25) (tS t45) && true)))))))))))))))))))))))))))))))))))))) then
  x7j call hs u rec0 t1 t3 t12 t13 t14 m_8 (fc + 35) else none)
  (x7j call hs u rec0 t1 t3 t12 t13 t14 m_2 (fc + 7))
noncomputable def x93 (call : FCall) (hs : FHs) (u : Nat) (rec0 : AV → AV → AV → AV → AV → Mem → Nat → Option (AV × Mem)) (t1 t3 t12 t13 t14 : AV) (m : Mem) (fc : Nat) : Option (AV × Mem) :=
  (sLt t14 t13).bind fun t15 =>
  sCond t15
  (x92 call hs u rec0 t1 t3 t12 t13 t14 m (fc + 1))
  (x2c call hs u t1 t3 m (fc + 1))
noncomputable def x2y (call : FCall) (hs : FHs) (u : Nat) : Nat → AV → AV → AV → AV → AV → Mem → Nat → Option (AV × Mem)
  | 0 => fun _ _ _ _ _ _ _ => none
  | n + 1 => fun t1 t3 t12 t13 t14 m fc => x93 call hs u (x2y call hs u n) t1 t3 t12 t13 t14 m fc
noncomputable def xaa (call : FCall) (hs : FHs) (u : Nat) (t1 t3 : AV) (m : Mem) (fc : Nat) : Option (AV × Mem) :=
  (sFA 0 t1).bind fun t10 =>
  (sFA 1 t10).bind fun t11 =>
  (sLd false 1 t11 m).bind fun t12 =>
  (sLen Try.prog x1c t12).bind fun t13 =>
  x2y call hs u NN t1 t3 t12 t13 (I 0) m (fc + 5)
noncomputable def xab (call : FCall) (hs : FHs) (u : Nat) (t0 : AV) (m : Mem) (fc : Nat) : Option (AV × Mem) :=
  sBox t0 (u, fc, 1) m fun t1 m_9 =>
  (sFA 0 t1).bind fun t6 =>
  (sFA 0 t6).bind fun t7 =>
  (sLd false 1 t7 m_9).bind fun t8 =>
  sMkSl x2k 1 24 t8 t8 (u, fc + 5, 9) m_9 fun t9 m_10 =>
  sAlloc xco (u, fc + 6, 3) m_10 fun t3 m_11 =>
  sSt 1 t3 t9 m_11 fun m_12 =>
  xaa call hs u t1 t3 m_12 (fc + 8)
noncomputable def x8i (call : FCall) (hs : FHs) (args : List AV) (m : Mem) : Option (AV × Mem) :=
  match args with
  | [t0] => xab call hs m.next t0 ⟨m.hp, m.next + 1⟩ 0
  | _ => none

noncomputable def x2m (call : FCall) (hs : FHs) (u : Nat) (t5 : AV) (m : Mem) (fc : Nat) : Option (AV × Mem) :=
  (sFA 0 t5).bind fun t45 =>
  (sLd false 1 t45 m).bind fun t46 =>
  some (t46, m)
noncomputable def x7k (call : FCall) (hs : FHs) (u : Nat) (rec0 : AV → AV → AV → AV → AV → Mem → Nat → Option (AV × Mem)) (t0 t1 t5 t12 t13 : AV) (m : Mem) (fc : Nat) : Option (AV × Mem) :=
  (sAdd t13 (I 1)).bind fun t44 =>
  rec0 t0 t1 t5 t12 t44 m (fc + 2)
noncomputable def x94 (call : FCall) (hs : FHs) (u : Nat) (rec0 : AV → AV → AV → AV → AV → Mem → Nat → Option (AV × Mem)) (t0 t1 t5 t12 t13 : AV) (m : Mem) (fc : Nat) : Option (AV × Mem) :=
  (sFA 0 t5).bind fun t16 =>
  (sLd false 1 t16 m).bind fun t17 =>
  (sIx 1 t17 t13).bind fun t19 =>
  (sLd false 1 t19 m).bind fun t20 =>
  (sLt t20 (I 1152921504606846976)).bind fun t21 =>
  sCond t21
  ((sFA 0 t5).bind fun t22 =>
  (sLd false 1 t22 m).bind fun t23 =>
  (sIx 1 t23 t13).bind fun t25 =>
  (sLd false 1 t25 m).bind fun t26 =>
  (sNil t0).bind fun t28 =>
  (sFA 3 t28).bind fun t29 =>
  (sLd false 1 t29 m).bind fun t30 =>
  (sIx 1 t30 t13).bind fun t32 =>
  (sLd false 1 t32 m).bind fun t33 =>
  (sNil t0).bind fun t35 =>
  (sFA 3 t35).bind fun t36 =>
  (sLd false 1 t36 m).bind fun t37 =>
  (sIx 1 t37 t1).bind fun t39 =>
  (sLd false 1 t39 m).bind fun t40 =>
  (sSub t33 t40).bind fun t41 =>
  (sAdd t26 t41).bind fun t42 =>
  (sIx 1 t23 t13).bind fun t43 =>
  sSt 1 t43 t42 m fun m_1 =>
  x7k call hs u rec0 t0 t1 t5 t12 t13 m_1 (fc + 31))
  (x7k call hs u rec0 t0 t1 t5 t12 t13 m (fc + 8))
noncomputable def x95 (call : FCall) (hs : FHs) (u : Nat) (rec0 : AV → AV → AV → AV → AV → Mem → Nat → Option (AV × Mem)) (t0 t1 t5 t12 t13 : AV) (m : Mem) (fc : Nat) : Option (AV × Mem) :=
  (sLt t13 t12).bind fun t14 =>
  sCond t14
  (x94 call hs u rec0 t0 t1 t5 t12 t13 m (fc + 1))
  (x2m call hs u t5 m (fc + 1))
noncomputable def x3u (call : FCall) (hs : FHs) (u : Nat) : Nat → AV → AV → AV → AV → AV → Mem → Nat → Option (AV × Mem)
  | 0 => fun _ _ _ _ _ _ _ => none
  | n + 1 => fun t0 t1 t5 t12 t13 m fc => x95 call hs u (x3u call hs u n) t0 t1 t5 t12 t13 m fc
noncomputable def xac (call : FCall) (hs : FHs) (u : Nat) (t0 t1 t5 : AV) (m : Mem) (fc : Nat) : Option (AV × Mem) :=
  (sFA 0 t5).bind fun t10 =>
  (sLd false 1 t10 m).bind fun t11 =>
  (sLen Try.prog x6 t11).bind fun t12 =>
  x3u call hs u NN t0 t1 t5 t12 (I 0) m (fc + 4)
noncomputable def xad (call : FCall) (hs : FHs) (u : Nat) (t0 t1 : AV) (m : Mem) (fc : Nat) : Option (AV × Mem) :=
  (sCall4 call x8 [t0, t1] m).bind fun p9 =>
  sAlloc x7l (u, fc + 4, 5) p9.2 fun t5 m_2 =>
  sSt 3 t5 p9.1 m_2 fun m_3 =>
  xac call hs u t0 t1 t5 m_3 (fc + 6)
noncomputable def x8j (call : FCall) (hs : FHs) (args : List AV) (m : Mem) : Option (AV × Mem) :=
  match args with
  | [t0, t1] => xad call hs m.next t0 t1 ⟨m.hp, m.next + 1⟩ 0
  | _ => none

noncomputable def x5c (call : FCall) (hs : FHs) (u : Nat) (t1 t4 : AV) (m : Mem) (fc : Nat) : Option (AV × Mem) :=
  (sFA 0 t1).bind fun t21 =>
  (sFA 0 t21).bind fun t22 =>
  (sLd false 1 t22 m).bind fun t23 =>
  (call hs xa [t23, (AV.clo x1n [t1, t4])] m).bind fun p25 =>
  some (p25.1, p25.2)
noncomputable def xkk (call : FCall) (hs : FHs) (u : Nat) (rec0 : AV → AV → AV → AV → AV → Mem → Nat → Option (AV × Mem)) (t1 t3 t4 t10 t11 : AV) (m : Mem) (fc : Nat) : Option (AV × Mem) :=
  (sLt t11 t10).bind fun t12 =>
  sCond t12
  ((sLd false 1 t4 m).bind fun t14 =>
  (sCall4 call xh [t3, t11] m).bind fun p17 =>
  sMkLit x2k [(0, 1, p17.1)] 1 1 (u, fc + 7, 18) p17.2 fun t18 m_1 =>
  sApp 1 24 (u, fc + 8, 19) (elems m_1.get 1 t18) t14 m_1 fun t19 m_2 =>
  sSt 1 t4 t19 m_2 fun m_3 =>
  bif (cAp none (tR t4) (mkM 4 [t3, t11]) && (apartIds (tR t4) (some [], some [(u, fc + 7, 18)]) && true)) then
  (sAdd t11 (I 1)).bind fun t20 =>
  rec0 t1 t3 t4 t10 t20 m_3 (fc + 12) else none)
  (x5c call hs u t1 t4 m (fc + 1))
noncomputable def x7m (call : FCall) (hs : FHs) (u : Nat) : Nat → AV → AV → AV → AV → AV → Mem → Nat → Option (AV × Mem)
  | 0 => fun _ _ _ _ _ _ _ => none
  | n + 1 => fun t1 t3 t4 t10 t11 m fc => xkk call hs u (x7m call hs u n) t1 t3 t4 t10 t11 m fc
noncomputable def xcp (call : FCall) (hs : FHs) (u : Nat) (t1 t3 t4 : AV) (m : Mem) (fc : Nat) : Option (AV × Mem) :=
  (sFA 0 t1).bind fun t8 =>
  (sFA 0 t8).bind fun t9 =>
  (sLd false 1 t9 m).bind fun t10 =>
  x7m call hs u NN t1 t3 t4 t10 (I 0) m (fc + 4)
noncomputable def xkl (call : FCall) (hs : FHs) (u : Nat) (t0 : AV) (m : Mem) (fc : Nat) : Option (AV × Mem) :=
  sBox t0 (u, fc, 1) m fun t1 m_4 =>
  (sLd true 2 t1 m_4).bind fun t6 =>
  (sCall1 call x9 [t6] m_4).bind fun p7 =>
  sAlloc xco (u, fc + 5, 4) p7.2 fun t4 m_5 =>
  xcp call hs u t1 p7.1 t4 m_5 (fc + 6)
noncomputable def x8k (call : FCall) (hs : FHs) (args : List AV) (m : Mem) : Option (AV × Mem) :=
  match args with
  | [t0] => xkl call hs m.next t0 ⟨m.hp, m.next + 1⟩ 0
  | _ => none

noncomputable def xae (call : FCall) (hs : FHs) (u : Nat) (t0 t1 : AV) (m : Mem) (fc : Nat) : Option (AV × Mem) :=
  (call hs x19 [t0, t1] m).bind fun p7 =>
  (sGe p7.1 (I 0)).bind fun t8 =>
  some (t8, p7.2)
noncomputable def x62 (call : FCall) (hs : FHs) (args : List AV) (m : Mem) : Option (AV × Mem) :=
  match args with
  | [t0, t1] => xae call hs m.next t0 t1 ⟨m.hp, m.next + 1⟩ 0
  | _ => none

noncomputable def xcq (call : FCall) (hs : FHs) (u : Nat) (t0 : AV) (m : Mem) (fc : Nat) : Option (AV × Mem) :=
  (sCall0 call x1e [t0, (I (-1000000)), (I 1000000)] m).bind fun p4 =>
  (sNot p4.1).bind fun t5 =>
  some (t5, p4.2)
noncomputable def x74 (call : FCall) (hs : FHs) (args : List AV) (m : Mem) : Option (AV × Mem) :=
  match args with
  | [t0] => xcq call hs m.next t0 ⟨m.hp, m.next + 1⟩ 0
  | _ => none

noncomputable def xkm (call : FCall) (hs : FHs) (u : Nat) (t0 : AV) (m : Mem) (fc : Nat) : Option (AV × Mem) :=
  (sBin Try.prog .eql x6 (.tmp 3) (.const (.slice none 0 0)) t0 nilS).bind fun t4 =>
  sCond t4
  (some (nilS, m))
  (sMkLit z_int [] 0 1 (u, fc + 3, 5) m fun t5 m_1 =>
  sApp 1 8 (u, fc + 5, 7) (elems m_1.get 1 t0) t5 m_1 fun t7 m_2 =>
  some (t7, m_2))
noncomputable def x8l (call : FCall) (hs : FHs) (args : List AV) (m : Mem) : Option (AV × Mem) :=
  match args with
  | [t0] => xkm call hs m.next t0 ⟨m.hp, m.next + 1⟩ 0
  | _ => none

noncomputable def xkn (call : FCall) (hs : FHs) (u : Nat) (t0 : AV) (m : Mem) (fc : Nat) : Option (AV × Mem) :=
  (sEq t0 (I 1000000000000)).bind fun t4 =>
  some (t4, m)
noncomputable def x85 (call : FCall) (hs : FHs) (args : List AV) (m : Mem) : Option (AV × Mem) :=
  match args with
  | [t0] => xkn call hs m.next t0 ⟨m.hp, m.next + 1⟩ 0
  | _ => none

noncomputable def x4j (call : FCall) (hs : FHs) (u : Nat) (t6 t7 : AV) (m : Mem) (fc : Nat) : Option (AV × Mem) :=
  (sCall0 call x2j [t6, (AV.clo x2u [])] m).bind fun p74 =>
  sCond p74.1
  (some (AV.tup [(I 0), (I 25)], p74.2))
  (some (AV.tup [t7, (I 0)], p74.2))
noncomputable def xaf (call : FCall) (hs : FHs) (u : Nat) (rec0 : AV → AV → AV → AV → AV → AV → Mem → Nat → Option (AV × Mem)) (t1 t6 t7 t23 t24 t25 : AV) (m : Mem) (fc : Nat) : Option (AV × Mem) :=
  (sLt t25 t24).bind fun t26 =>
  sCond t26
  ((sIx 4 t23 t25).bind fun t28 =>
  (sLd true 4 t28 m).bind fun t29 =>
  sAlloc x1o (u, fc + 4, 9) m fun t9 m_1 =>
  sSt 4 t9 t29 m_1 fun m_2 =>
  (sIx 1 t1 t25).bind fun t32 =>
  (sLd false 1 t32 m_2).bind fun t33 =>
  (sFA 3 t9).bind fun t34 =>
  (sLd false 1 t34 m_2).bind fun t35 =>
  (sNeg t35).bind fun t36 =>
  (sFA 3 t9).bind fun t37 =>
  (sLd false 1 t37 m_2).bind fun t38 =>
  (sCall0 call x1e [t33, t36, t38] m_2).bind fun p39 =>
  (sNot p39.1).bind fun t40 =>
  sCond t40
  (some (AV.tup [(I 0), (I 2)], p39.2))
  ((sFA 0 t9).bind fun t42 =>
  (sLd false 1 t42 p39.2).bind fun t43 =>
  (sIx 1 t6 t43).bind fun t44 =>
  (sLd false 1 t44 p39.2).bind fun t45 =>
  (sIx 1 t1 t25).bind fun t48 =>
  (sLd false 1 t48 p39.2).bind fun t49 =>
  (sSub t45 t49).bind fun t50 =>
  (sIx 1 t6 t43).bind fun t51 =>
  sSt 1 t51 t50 p39.2 fun m_3 =>
  (sFA 1 t9).bind fun t53 =>
  (sLd false 1 t53 m_3).bind fun t54 =>
  (sIx 1 t6 t54).bind fun t55 =>
  (sLd false 1 t55 m_3).bind fun t56 =>
  (sIx 1 t1 t25).bind fun t59 =>
  (sLd false 1 t59 m_3).bind fun t60 =>
  (sAdd t56 t60).bind fun t61 =>
  (sIx 1 t6 t54).bind fun t62 =>
  sSt 1 t62 t61 m_3 fun m_4 =>
  (sIx 1 t1 t25).bind fun t66 =>
  (sLd false 1 t66 m_4).bind fun t67 =>
  (sFA 2 t9).bind fun t68 =>
  (sLd false 1 t68 m_4).bind fun t69 =>
  (sMul t67 t69).bind fun t70 =>
  (sAdd t7 t70).bind fun t71 =>
  (sAdd t25 (I 1)).bind fun t72 =>
  rec0 t1 t6 t71 t23 t24 t72 m_4 (fc + 54)))
  (x4j call hs u t6 t7 m (fc + 1))
noncomputable def x4k (call : FCall) (hs : FHs) (u : Nat) : Nat → AV → AV → AV → AV → AV → AV → Mem → Nat → Option (AV × Mem)
  | 0 => fun _ _ _ _ _ _ _ _ => none
  | n + 1 => fun t1 t6 t7 t23 t24 t25 m fc => xaf call hs u (x4k call hs u n) t1 t6 t7 t23 t24 t25 m fc
noncomputable def xag (call : FCall) (hs : FHs) (u : Nat) (t1 t2 t6 t7 : AV) (m : Mem) (fc : Nat) : Option (AV × Mem) :=
  (sFA 0 t2).bind fun t21 =>
  (sFA 1 t21).bind fun t22 =>
  (sLd false 1 t22 m).bind fun t23 =>
  (sLen Try.prog x1c t23).bind fun t24 =>
  x4k call hs u NN t1 t6 t7 t23 t24 (I 0) m (fc + 5)
noncomputable def xcr (call : FCall) (hs : FHs) (u : Nat) (t0 t1 : AV) (m : Mem) (fc : Nat) : Option (AV × Mem) :=
  sBox t0 (u, fc, 2) m fun t2 m_5 =>
  (sLen Try.prog x6 t1).bind fun t11 =>
  (sFA 0 t2).bind fun t12 =>
  (sFA 1 t12).bind fun t13 =>
  (sLd false 1 t13 m_5).bind fun t14 =>
  (sLen Try.prog x1c t14).bind fun t15 =>
  (sNe t11 t15).bind fun t16 =>
  sCond t16
  (some (AV.tup [(I 0), (I 10)], m_5))
  ((sFA 0 t2).bind fun t17 =>
  (sFA 0 t17).bind fun t18 =>
  (sLd false 1 t18 m_5).bind fun t19 =>
  sMkSl z_int 1 8 t19 t19 (u, fc + 13, 20) m_5 fun t20 m_6 =>
  xag call hs u t1 t2 t20 (I 0) m_6 (fc + 16))
noncomputable def x75 (call : FCall) (hs : FHs) (args : List AV) (m : Mem) : Option (AV × Mem) :=
  match args with
  | [t0, t1] => xcr call hs m.next t0 t1 ⟨m.hp, m.next + 1⟩ 0
  | _ => none

noncomputable def xah (call : FCall) (hs : FHs) (u : Nat) (t0 : AV) (m : Mem) (fc : Nat) : Option (AV × Mem) :=
  some (t0, m)
noncomputable def xcs (call : FCall) (hs : FHs) (u : Nat) (t0 : AV) (m : Mem) (fc : Nat) : Option (AV × Mem) :=
  (sGe t0 (I 2048)).bind fun t8 =>
  sCond t8
  ((sSub t0 (I 4096)).bind fun t10 =>
  xah call hs u t10 m (fc + 5))
  (xah call hs u t0 m (fc + 2))
noncomputable def xko (call : FCall) (hs : FHs) (u : Nat) (t0 : AV) (m : Mem) (fc : Nat) : Option (AV × Mem) :=
  (sRem t0 (I 4096)).bind fun t4 =>
  (sAdd t4 (I 4096)).bind fun t5 =>
  (sRem t5 (I 4096)).bind fun t6 =>
  xcs call hs u t6 m (fc + 6)
noncomputable def x84 (call : FCall) (hs : FHs) (args : List AV) (m : Mem) : Option (AV × Mem) :=
  match args with
  | [t0] => xko call hs m.next t0 ⟨m.hp, m.next + 1⟩ 0
  | _ => none

noncomputable def x2z (call : FCall) (hs : FHs) (u : Nat) (t5 : AV) (m : Mem) (fc : Nat) : Option (AV × Mem) :=
  some (t5, m)
noncomputable def xai (call : FCall) (hs : FHs) (u : Nat) (rec0 : AV → AV → AV → AV → AV → Mem → Nat → Option (AV × Mem)) (t1 t5 t10 t11 t12 : AV) (m : Mem) (fc : Nat) : Option (AV × Mem) :=
  (sAdd t12 (I 1)).bind fun t27 =>
  rec0 t1 t5 t10 t11 t27 m (fc + 2)
noncomputable def xct (call : FCall) (hs : FHs) (u : Nat) (rec0 : AV → AV → AV → AV → AV → Mem → Nat → Option (AV × Mem)) (t1 t5 t10 t11 t12 : AV) (m : Mem) (fc : Nat) : Option (AV × Mem) :=
  (sIx 4 t10 t12).bind fun t14 =>
  (sLd true 4 t14 m).bind fun t15 =>
  sAlloc x1o (u, fc + 2, 7) m fun t7 m_1 =>
  sSt 4 t7 t15 m_1 fun m_2 =>
  (sLd true 4 t7 m_2).bind fun t17 =>
  (fxInv call hs 2 t1 [t17] m_2).bind fun p18 =>
  sCond p18.1
  ((sFA 0 t7).bind fun t20 =>
  (sLd false 1 t20 p18.2).bind fun t21 =>
  (sFA 1 t7).bind fun t22 =>
  (sLd false 1 t22 p18.2).bind fun t23 =>
  (sBuild x8z [(0, 1, t21), (1, 1, t23)]).bind fun t24 =>
  sMkLit x8z [(0, 2, t24)] 1 2 (u, fc + 13, 25) p18.2 fun t25 m_3 =>
  sApp 2 16 (u, fc + 14, 26) (elems m_3.get 2 t25) t5 m_3 fun t26 m_4 =>
  xai call hs u rec0 t1 t26 t10 t11 t12 m_4 (fc + 16))
  (xai call hs u rec0 t1 t5 t10 t11 t12 p18.2 (fc + 7))
noncomputable def xkp (call : FCall) (hs : FHs) (u : Nat) (rec0 : AV → AV → AV → AV → AV → Mem → Nat → Option (AV × Mem)) (t1 t5 t10 t11 t12 : AV) (m : Mem) (fc : Nat) : Option (AV × Mem) :=
  (sLt t12 t11).bind fun t13 =>
  sCond t13
  (xct call hs u rec0 t1 t5 t10 t11 t12 m (fc + 1))
  (x2z call hs u t5 m (fc + 1))
noncomputable def x7n (call : FCall) (hs : FHs) (u : Nat) : Nat → AV → AV → AV → AV → AV → Mem → Nat → Option (AV × Mem)
  | 0 => fun _ _ _ _ _ _ _ => none
  | n + 1 => fun t1 t5 t10 t11 t12 m fc => xkp call hs u (x7n call hs u n) t1 t5 t10 t11 t12 m fc
noncomputable def xcu (call : FCall) (hs : FHs) (u : Nat) (t1 t2 t5 : AV) (m : Mem) (fc : Nat) : Option (AV × Mem) :=
  (sFA 0 t2).bind fun t8 =>
  (sFA 1 t8).bind fun t9 =>
  (sLd false 1 t9 m).bind fun t10 =>
  (sLen Try.prog x1c t10).bind fun t11 =>
  x7n call hs u NN t1 t5 t10 t11 (I 0) m (fc + 5)
noncomputable def xkq (call : FCall) (hs : FHs) (u : Nat) (t0 t1 : AV) (m : Mem) (fc : Nat) : Option (AV × Mem) :=
  sBox t0 (u, fc, 2) m fun t2 m_5 =>
  xcu call hs u t1 t2 nilS m_5 (fc + 3)
noncomputable def x8m (call : FCall) (hs : FHs) (args : List AV) (m : Mem) : Option (AV × Mem) :=
  match args with
  | [t0, t1] => xkq call hs m.next t0 t1 ⟨m.hp, m.next + 1⟩ 0
  | _ => none

noncomputable def xcv (call : FCall) (hs : FHs) (u : Nat) (t0 t1 : AV) (m : Mem) (fc : Nat) : Option (AV × Mem) :=
  sBox t0 (u, fc, 2) m fun t2 m_1 =>
  (sFA 1 t2).bind fun t6 =>
  (sLd false 1 t6 m_1).bind fun t7 =>
  (sIx 1 t1 t7).bind fun t8 =>
  (sLd false 1 t8 m_1).bind fun t9 =>
  (sFA 0 t2).bind fun t11 =>
  (sLd false 1 t11 m_1).bind fun t12 =>
  (sIx 1 t1 t12).bind fun t13 =>
  (sLd false 1 t13 m_1).bind fun t14 =>
  (sSub t9 t14).bind fun t15 =>
  (sFA 2 t2).bind fun t16 =>
  (sLd false 1 t16 m_1).bind fun t17 =>
  (sAdd t15 t17).bind fun t18 =>
  some (t18, m_1)
noncomputable def x6i (call : FCall) (hs : FHs) (args : List AV) (m : Mem) : Option (AV × Mem) :=
  match args with
  | [t0, t1] => xcv call hs m.next t0 t1 ⟨m.hp, m.next + 1⟩ 0
  | _ => none

noncomputable def xcw (call : FCall) (hs : FHs) (u : Nat) (t0 t1 : AV) (m : Mem) (fc : Nat) : Option (AV × Mem) :=
  sBox t0 (u, fc, 2) m fun t2 m_1 =>
  (sFA 1 t2).bind fun t6 =>
  (sLd false 1 t6 m_1).bind fun t7 =>
  (sIx 1 t1 t7).bind fun t8 =>
  (sLd false 1 t8 m_1).bind fun t9 =>
  (sFA 0 t2).bind fun t11 =>
  (sLd false 1 t11 m_1).bind fun t12 =>
  (sIx 1 t1 t12).bind fun t13 =>
  (sLd false 1 t13 m_1).bind fun t14 =>
  (sSub t9 t14).bind fun t15 =>
  (sFA 2 t2).bind fun t16 =>
  (sLd false 1 t16 m_1).bind fun t17 =>
  (sAdd t15 t17).bind fun t18 =>
  some (t18, m_1)
noncomputable def x76 (call : FCall) (hs : FHs) (args : List AV) (m : Mem) : Option (AV × Mem) :=
  match args with
  | [t0, t1] => xcw call hs m.next t0 t1 ⟨m.hp, m.next + 1⟩ 0
  | _ => none

noncomputable def xkr (call : FCall) (hs : FHs) (u : Nat) (t0 t1 : AV) (m : Mem) (fc : Nat) : Option (AV × Mem) :=
  sBox t0 (u, fc, 2) m fun t2 m_1 =>
  (sLd false 1 t1 m_1).bind fun t4 =>
  (sFA 0 t2).bind fun t5 =>
  (sLd false 1 t5 m_1).bind fun t6 =>
  (sIx 1 t4 t6).bind fun t7 =>
  (sLd false 1 t7 m_1).bind fun t8 =>
  (sLd false 1 t1 m_1).bind fun t9 =>
  (sFA 1 t2).bind fun t10 =>
  (sLd false 1 t10 m_1).bind fun t11 =>
  (sIx 1 t9 t11).bind fun t12 =>
  (sLd false 1 t12 m_1).bind fun t13 =>
  (sNe t8 t13).bind fun t14 =>
  some (t14, m_1)
noncomputable def x8n (call : FCall) (hs : FHs) (args : List AV) (m : Mem) : Option (AV × Mem) :=
  match args with
  | [t0, t1] => xkr call hs m.next t0 t1 ⟨m.hp, m.next + 1⟩ 0
  | _ => none

noncomputable def x4l (call : FCall) (hs : FHs) (u : Nat) (m : Mem) (fc : Nat) : Option (AV × Mem) :=
  some (AV.tup [(I 0), (I 0)], m)
noncomputable def xaj (call : FCall) (hs : FHs) (u : Nat) (rec0 : AV → AV → AV → AV → Mem → Nat → Option (AV × Mem)) (t1 t17 t18 t19 : AV) (m : Mem) (fc : Nat) : Option (AV × Mem) :=
  (sLt t19 t18).bind fun t20 =>
  sCond t20
  ((sIx 4 t17 t19).bind fun t22 =>
  (sLd true 4 t22 m).bind fun t23 =>
  sAlloc x1o (u, fc + 4, 5) m fun t5 m_1 =>
  sSt 4 t5 t23 m_1 fun m_2 =>
  (sFA 0 t5).bind fun t25 =>
  (sLd false 1 t25 m_2).bind fun t26 =>
  (sFA 0 t1).bind fun t27 =>
  (sLd false 1 t27 m_2).bind fun t28 =>
  (sSub t28 (I 1)).bind fun t29 =>
  (sCall0 call x1e [t26, (I 0), t29] m_2).bind fun p30 =>
  (sNot p30.1).bind fun t31 =>
  (bif sW t31 false then (sFA 1 t5).bind fun v => some (v, p30.2) else some (U, p30.2)).bind fun p33 =>
  (bif sW t31 false then (sLd false 1 p33.1 p33.2).bind fun v => some (v, p33.2) else some (U, p33.2)).bind fun p34 =>
  (bif sW t31 false then (sFA 0 t1).bind fun v => some (v, p34.2) else some (U, p34.2)).bind fun p35 =>
  (bif sW t31 false then (sLd false 1 p35.1 p35.2).bind fun v => some (v, p35.2) else some (U, p35.2)).bind fun p36 =>
  (bif sW t31 false then (sSub p36.1 (I 1)).bind fun v => some (v, p36.2) else some (U, p36.2)).bind fun p37 =>
  (bif sW t31 false then (sCall0 call x1e [p34.1, (I 0), p37.1] p37.2).bind fun p => some (p.1, p.2) else some (U, p37.2)).bind fun p38 =>
  (bif sW t31 false then (sNot p38.1).bind fun v => some (v, p38.2) else some (U, p38.2)).bind fun p39 =>
  (sPick t31 (B true) p39.1).bind fun t40 =>
  sCond t40
  (some (AV.tup [t19, (I 6)], p39.2))
  ((sFA 0 t5).bind fun t43 =>
  (sLd false 1 t43 p39.2).bind fun t44 =>
  (sFA 1 t5).bind fun t45 =>
  (sLd false 1 t45 p39.2).bind fun t46 =>
  (sEq t44 t46).bind fun t47 =>
  sCond t47
  (some (AV.tup [t19, (I 3)], p39.2))
  ((sFA 2 t5).bind fun t50 =>
  (sLd false 1 t50 p39.2).bind fun t51 =>
  (sCall0 call x1e [t51, (I (-1000)), (I 1000)] p39.2).bind fun p52 =>
  (sNot p52.1).bind fun t53 =>
  (bif sW t53 false then (sFA 3 t5).bind fun v => some (v, p52.2) else some (U, p52.2)).bind fun p55 =>
  (bif sW t53 false then (sLd false 1 p55.1 p55.2).bind fun v => some (v, p55.2) else some (U, p55.2)).bind fun p56 =>
  (bif sW t53 false then (sCall0 call x41 [p56.1] p56.2).bind fun p => some (p.1, p.2) else some (U, p56.2)).bind fun p57 =>
  (bif sW t53 false then (sNot p57.1).bind fun v => some (v, p57.2) else some (U, p57.2)).bind fun p58 =>
  (sPick t53 (B true) p58.1).bind fun t59 =>
  sCond t59
  (some (AV.tup [t19, (I 2)], p58.2))
  ((sAdd t19 (I 1)).bind fun t61 =>
  rec0 t1 t17 t18 t61 p58.2 (fc + 43)))))
  (x4l call hs u m (fc + 1))
noncomputable def x4m (call : FCall) (hs : FHs) (u : Nat) : Nat → AV → AV → AV → AV → Mem → Nat → Option (AV × Mem)
  | 0 => fun _ _ _ _ _ _ => none
  | n + 1 => fun t1 t17 t18 t19 m fc => xaj call hs u (x4m call hs u n) t1 t17 t18 t19 m fc
noncomputable def xak (call : FCall) (hs : FHs) (u : Nat) (t1 : AV) (m : Mem) (fc : Nat) : Option (AV × Mem) :=
  (sFA 1 t1).bind fun t16 =>
  (sLd false 1 t16 m).bind fun t17 =>
  (sLen Try.prog x1c t17).bind fun t18 =>
  x4m call hs u NN t1 t17 t18 (I 0) m (fc + 4)
noncomputable def xcx (call : FCall) (hs : FHs) (u : Nat) (t0 : AV) (m : Mem) (fc : Nat) : Option (AV × Mem) :=
  sBox t0 (u, fc, 1) m fun t1 m_3 =>
  (sFA 0 t1).bind fun t7 =>
  (sLd false 1 t7 m_3).bind fun t8 =>
  (sCall0 call x1e [t8, (I 0), (I 200)] m_3).bind fun p9 =>
  (sNot p9.1).bind fun t10 =>
  sCond t10
  (some (AV.tup [(I 0), (I 2)], p9.2))
  ((sFA 1 t1).bind fun t12 =>
  (sLd false 1 t12 p9.2).bind fun t13 =>
  (sLen Try.prog x1c t13).bind fun t14 =>
  (sGt t14 (I 600)).bind fun t15 =>
  sCond t15
  (some (AV.tup [(I 0), (I 8)], p9.2))
  (xak call hs u t1 p9.2 (fc + 13)))
noncomputable def x77 (call : FCall) (hs : FHs) (args : List AV) (m : Mem) : Option (AV × Mem) :=
  match args with
  | [t0] => xcx call hs m.next t0 ⟨m.hp, m.next + 1⟩ 0
  | _ => none

noncomputable def x1r (call : FCall) (hs : FHs) (u : Nat) (t3 : AV) (m : Mem) (fc : Nat) : Option (AV × Mem) :=
  some (t3, m)
noncomputable def x30 (call : FCall) (hs : FHs) (u : Nat) (rec0 : AV → AV → AV → AV → Mem → Nat → Option (AV × Mem)) (t3 t28 t29 t30 : AV) (m : Mem) (fc : Nat) : Option (AV × Mem) :=
  (sAdd t30 (I 1)).bind fun t130 =>
  rec0 t3 t28 t29 t130 m (fc + 2)
noncomputable def x5d (call : FCall) (hs : FHs) (u : Nat) (rec0 : AV → AV → AV → AV → Mem → Nat → Option (AV × Mem)) (t3 t4 t5 t28 t29 t30 : AV) (m : Mem) (fc : Nat) : Option (AV × Mem) :=
  (sNil t3).bind fun t61 =>
  (sFA 4 t61).bind fun t62 =>
  (sLd false 1 t62 m).bind fun t63 =>
  (sFA 0 t5).bind fun t64 =>
  (sLd false 1 t64 m).bind fun t65 =>
  (sIx 1 t63 t65).bind fun t66 =>
  (sLd false 1 t66 m).bind fun t67 =>
  (sNil t3).bind fun t69 =>
  (sFA 2 t69).bind fun t70 =>
  (sLd false 1 t70 m).bind fun t71 =>
  (sIx 1 t71 t4).bind fun t73 =>
  (sLd false 1 t73 m).bind fun t74 =>
  (sSub t67 t74).bind fun t75 =>
  (sIx 1 t63 t65).bind fun t76 =>
  sSt 1 t76 t75 m fun m_1 =>
  (sNil t3).bind fun t78 =>
  (sFA 4 t78).bind fun t79 =>
  (sLd false 1 t79 m_1).bind fun t80 =>
  (sFA 1 t5).bind fun t81 =>
  (sLd false 1 t81 m_1).bind fun t82 =>
  (sIx 1 t80 t82).bind fun t83 =>
  (sLd false 1 t83 m_1).bind fun t84 =>
  (sNil t3).bind fun t86 =>
  (sFA 2 t86).bind fun t87 =>
  (sLd false 1 t87 m_1).bind fun t88 =>
  (sIx 1 t88 t4).bind fun t90 =>
  (sLd false 1 t90 m_1).bind fun t91 =>
  (sAdd t84 t91).bind fun t92 =>
  (sIx 1 t80 t82).bind fun t93 =>
  sSt 1 t93 t92 m_1 fun m_2 =>
  (sNil t3).bind fun t95 =>
  (sFA 5 t95).bind fun t96 =>
  (sLd false 1 t96 m_2).bind fun t97 =>
  (sFA 0 t5).bind fun t98 =>
  (sLd false 1 t98 m_2).bind fun t99 =>
  (sNil t3).bind fun t101 =>
  (sFA 5 t101).bind fun t102 =>
  (sLd false 1 t102 m_2).bind fun t103 =>
  (sFA 1 t5).bind fun t104 =>
  (sLd false 1 t104 m_2).bind fun t105 =>
  (sNil t3).bind fun t107 =>
  (sFA 5 t107).bind fun t108 =>
  (sLd false 1 t108 m_2).bind fun t109 =>
  (sFA 0 t5).bind fun t110 =>
  (sLd false 1 t110 m_2).bind fun t111 =>
  (sIx 1 t109 t111).bind fun t112 =>
  (sLd false 1 t112 m_2).bind fun t113 =>
  sMkLit z_int [(0, 1, t4)] 1 1 (u, fc + 57, 115) m_2 fun t115 m_3 =>
  sApp 1 8 (u, fc + 58, 116) (elems m_3.get 1 t115) t113 m_3 fun t116 m_4 =>
  (sNil t3).bind fun t118 =>
  (sFA 5 t118).bind fun t119 =>
  (sLd false 1 t119 m_4).bind fun t120 =>
  (sFA 1 t5).bind fun t121 =>
  (sLd false 1 t121 m_4).bind fun t122 =>
  (sIx 1 t120 t122).bind fun t123 =>
  (sLd false 1 t123 m_4).bind fun t124 =>
  sMkLit z_int [(0, 1, t4)] 1 1 (u, fc + 68, 126) m_4 fun t126 m_5 =>
  sApp 1 8 (u, fc + 69, 127) (elems m_5.get 1 t126) t124 m_5 fun t127 m_6 =>
  (sIx 1 t97 t99).bind fun t128 =>
  sSt 1 t128 t116 m_6 fun m_7 =>
  (sIx 1 t103 t105).bind fun t129 =>
  sSt 1 t129 t127 m_7 fun m_8 =>
  bif (apartIds (tR t96) (some [], some [(u, fc + 57, 115)]) && (apartIds (tR t98) (some [], some [(u, fc + 57, 115)]) && (apartIds (tR t102) (some [], some [(u, fc + 57, 115)]) && (apartIds (tR t104) (some [], some [(u, fc + 57, 115)]) && (apartIds (tR t108) (some [], some [(u, fc + 57, 115)]) && (apartIds (tR t110) (some [], some [(u, fc + 57, 115)]) && (apartIds (tR t112) (some [], some [(u, fc + 57, 115)]) && (apartIds (tR t96) (tX t115, tA (u, fc + 58, 116) t113) && (apartIds (tR t98) (tX t115, tA (u, fc + 58, 116) t113) && (apartIds (tR t102) (tX t115, tA (u, fc + 58, 116) t113) && (apartIds (tR t104) (tX t115, tA (u, fc + 58, 116) t113) && (apartIds (some [], some [(u, fc + 57, 115)]) (tR t119) && (apartIds (tX t115, tA (u, fc + 58, 116) t113) (tR t119) && (apartIds (some [], some [(u, fc + 57, 115)]) (tR t121) && (apartIds (tX t115, tA (u, fc + 58, 116) t113) (tR t121) && (apartIds (some [], some [(u, fc + 57, 115)]) (tR t123) && (apartIds (tX t115, tA (u, fc + 58, 116) t113) (tR t123) && (apartIds (tR t96) (some [], some [(u, fc + 68, 126)]) && (apartIds (tR t98) (some [], some [(u, fc + 68, 126)]) && (apartIds (tR t102) (some [], some [(u, fc + 68, 126)]) && (apartIds (tR t104) (some [], some [(u, fc + 68, 126)]) && (apartIds (tR t108) (some [], some [(u, fc + 68, 126)]) && (apartIds (tR t110) (some [], some [(u, fc + 68, 126)]) && (apartIds (tR t112) (some [], some [(u, fc + 68, 126)]) && (apartIds (some [], some [(u, fc + 57, 115)]) (some [], some [(u, fc + 68, 126)]) && (apartIds (tX t115, tA (u, fc + 58, 116) t113) (some [], some [(u, fc + 68, 126)]) && (apartIds (tR t119) (some [], some [(u, fc + 68, 126)]) && (apartIds (tR t121) (some [], some [(u, fc + 68, 126)]) && (apartIds (tR t123) (some [], some [(u, fc + 68, 126)]) && (apartIds (tR t96) (tX t126, tA (u, fc + 69, 127) t124) && (apartIds (tR t98) (tX t126, tA (u, fc + 69, 127) t124) && (apartIds (tR t102) (tX t126, tA (u, fc + 69, 127) t124) && (apartIds (tR t104) (tX t126, tA (u, fc + 69, 127) t124) && (apartIds (tR t104) (tS t128) && true)))))))))))))))))))))))))))))))))) then
  x30 call hs u rec0 t3 t28 t29 t30 m_8 (fc + 74) else none
noncomputable def xal (call : FCall) (hs : FHs) (u : Nat) (rec0 : AV → AV → AV → AV → Mem → Nat → Option (AV × Mem)) (t3 t4 t5 t28 t29 t30 : AV) (m : Mem) (fc : Nat) : Option (AV × Mem) :=
  (sFA 2 t5).bind fun t36 =>
  (sLd false 1 t36 m).bind fun t37 =>
  (sGt t37 (I 0)).bind fun t38 =>
  sCond t38
  ((sNil t3).bind fun t40 =>
  (sFA 2 t40).bind fun t41 =>
  (sLd false 1 t41 m).bind fun t42 =>
  (sFA 3 t5).bind fun t44 =>
  (sLd false 1 t44 m).bind fun t45 =>
  (sIx 1 t42 t4).bind fun t46 =>
  sSt 1 t46 t45 m fun m_9 =>
  x5d call hs u rec0 t3 t4 t5 t28 t29 t30 m_9 (fc + 13))
  ((sFA 2 t5).bind fun t48 =>
  (sLd false 1 t48 m).bind fun t49 =>
  (sLt t49 (I 0)).bind fun t50 =>
  sCond t50
  ((sNil t3).bind fun t52 =>
  (sFA 2 t52).bind fun t53 =>
  (sLd false 1 t53 m).bind fun t54 =>
  (sFA 3 t5).bind fun t56 =>
  (sLd false 1 t56 m).bind fun t57 =>
  (sNeg t57).bind fun t58 =>
  (sIx 1 t54 t4).bind fun t59 =>
  sSt 1 t59 t58 m fun m_10 =>
  x5d call hs u rec0 t3 t4 t5 t28 t29 t30 m_10 (fc + 18))
  (x5d call hs u rec0 t3 t4 t5 t28 t29 t30 m (fc + 8)))
noncomputable def x96 (call : FCall) (hs : FHs) (u : Nat) (rec0 : AV → AV → AV → AV → Mem → Nat → Option (AV × Mem)) (t3 t28 t29 t30 : AV) (m : Mem) (fc : Nat) : Option (AV × Mem) :=
  (sIx 4 t28 t30).bind fun t33 =>
  (sLd true 4 t33 m).bind fun t34 =>
  sAlloc x1o (u, fc + 3, 5) m fun t5 m_11 =>
  sSt 4 t5 t34 m_11 fun m_12 =>
  xal call hs u rec0 t3 t30 t5 t28 t29 t30 m_12 (fc + 6)
noncomputable def xam (call : FCall) (hs : FHs) (u : Nat) (rec0 : AV → AV → AV → AV → Mem → Nat → Option (AV × Mem)) (t3 t28 t29 t30 : AV) (m : Mem) (fc : Nat) : Option (AV × Mem) :=
  (sLt t30 t29).bind fun t31 =>
  sCond t31
  (x96 call hs u rec0 t3 t28 t29 t30 m (fc + 1))
  (x1r call hs u t3 m (fc + 1))
noncomputable def x31 (call : FCall) (hs : FHs) (u : Nat) : Nat → AV → AV → AV → AV → Mem → Nat → Option (AV × Mem)
  | 0 => fun _ _ _ _ _ _ => none
  | n + 1 => fun t3 t28 t29 t30 m fc => xam call hs u (x31 call hs u n) t3 t28 t29 t30 m fc
noncomputable def xan (call : FCall) (hs : FHs) (u : Nat) (t1 t3 : AV) (m : Mem) (fc : Nat) : Option (AV × Mem) :=
  (sFA 0 t1).bind fun t26 =>
  (sFA 1 t26).bind fun t27 =>
  (sLd false 1 t27 m).bind fun t28 =>
  (sLen Try.prog x1c t28).bind fun t29 =>
  x31 call hs u NN t3 t28 t29 (I 0) m (fc + 5)
noncomputable def xcy (call : FCall) (hs : FHs) (u : Nat) (t0 : AV) (m : Mem) (fc : Nat) : Option (AV × Mem) :=
  sBox t0 (u, fc, 1) m fun t1 m_13 =>
  (sLd true 2 t1 m_13).bind fun t6 =>
  (sFA 0 t1).bind fun t7 =>
  (sFA 1 t7).bind fun t8 =>
  (sLd false 1 t8 m_13).bind fun t9 =>
  (sLen Try.prog x1c t9).bind fun t10 =>
  sMkSl z_int 1 8 t10 t10 (u, fc + 7, 11) m_13 fun t11 m_14 =>
  (sFA 0 t1).bind fun t12 =>
  (sFA 0 t12).bind fun t13 =>
  (sLd false 1 t13 m_14).bind fun t14 =>
  sMkSl z_int 1 8 t14 t14 (u, fc + 11, 15) m_14 fun t15 m_15 =>
  (sFA 0 t1).bind fun t16 =>
  (sFA 0 t16).bind fun t17 =>
  (sLd false 1 t17 m_15).bind fun t18 =>
  sMkSl z_int 1 8 t18 t18 (u, fc + 15, 19) m_15 fun t19 m_16 =>
  (sFA 0 t1).bind fun t20 =>
  (sFA 0 t20).bind fun t21 =>
  (sLd false 1 t21 m_16).bind fun t22 =>
  sMkSl x2k 1 24 t22 t22 (u, fc + 19, 23) m_16 fun t23 m_17 =>
  (sBuild xks [(0, 2, t6), (2, 1, t11), (3, 1, t15), (4, 1, t19), (5, 1, t23)]).bind fun t24 =>
  sBox t24 (u, fc + 21, 25) m_17 fun t25 m_18 =>
  bif (apartIds (tR t1) (some [], some [(u, fc + 7, 11)]) && (apartIds (some [], some [(u, fc + 7, 11)]) (tR t13) && (apartIds (tR t1) (some [], some [(u, fc + 11, 15)]) && (apartIds (tR t8) (some [], some [(u, fc + 11, 15)]) && (apartIds (some [], some [(u, fc + 7, 11)]) (some [], some [(u, fc + 11, 15)]) && (apartIds (some [], some [(u, fc + 7, 11)]) (tR t17) && (apartIds (some [], some [(u, fc + 11, 15)]) (tR t17) && (apartIds (tR t1) (some [], some [(u, fc + 15, 19)]) && (apartIds (tR t8) (some [], some [(u, fc + 15, 19)]) && (apartIds (some [], some [(u, fc + 7, 11)]) (some [], some [(u, fc + 15, 19)]) && (apartIds (tR t13) (some [], some [(u, fc + 15, 19)]) && (apartIds (some [], some [(u, fc + 11, 15)]) (some [], some [(u, fc + 15, 19)]) && (apartIds (some [], some [(u, fc + 7, 11)]) (tR t21) && (apartIds (some [], some [(u, fc + 11, 15)]) (tR t21) && (apartIds (some [], some [(u, fc + 15, 19)]) (tR t21) && (apartIds (tR t1) (some [], some [(u, fc + 19, 23)]) && (apartIds (tR t8) (some [], some [(u, fc + 19, 23)]) && (apartIds (some [], some [(u, fc + 7, 11)]) (some [], some [(u, fc + 19, 23)]) && (apartIds (tR t13) (some [], some [(u, fc + 19, 23)]) && (apartIds (some [], some [(u, fc + 11, 15)]) (some [], some [(u, fc + 19, 23)]) && (apartIds (tR t17) (some [], some [(u, fc + 19, 23)]) && (apartIds (some [], some [(u, fc + 15, 19)]) (some [], some [(u, fc + 19, 23)]) && true)))))))))))))))))))))) then
  xan call hs u t1 t25 m_18 (fc + 23) else none
noncomputable def x78 (call : FCall) (hs : FHs) (args : List AV) (m : Mem) : Option (AV × Mem) :=
  match args with
  | [t0] => xcy call hs m.next t0 ⟨m.hp, m.next + 1⟩ 0
  | _ => none

noncomputable def x32 (call : FCall) (hs : FHs) (u : Nat) (m : Mem) (fc : Nat) : Option (AV × Mem) :=
  some ((I (-1)), m)
noncomputable def x4n (call : FCall) (hs : FHs) (u : Nat) (rec0 : AV → AV → AV → AV → Mem → Nat → Option (AV × Mem)) (t0 t1 t7 t8 : AV) (m : Mem) (fc : Nat) : Option (AV × Mem) :=
  (sLt t8 t7).bind fun t9 =>
  sCond t9
  ((sIx 1 t0 t8).bind fun t14 =>
  (sLd false 1 t14 m).bind fun t15 =>
  (fxInv call hs 2 t1 [t15] m).bind fun p16 =>
  sCond p16.1
  (some (t8, p16.2))
  ((sAdd t8 (I 1)).bind fun t18 =>
  rec0 t0 t1 t7 t18 p16.2 (fc + 11)))
  (x32 call hs u m (fc + 1))
noncomputable def x1s (call : FCall) (hs : FHs) (u : Nat) : Nat → AV → AV → AV → AV → Mem → Nat → Option (AV × Mem)
  | 0 => fun _ _ _ _ _ _ => none
  | n + 1 => fun t0 t1 t7 t8 m fc => x4n call hs u (x1s call hs u n) t0 t1 t7 t8 m fc
noncomputable def x7o (call : FCall) (hs : FHs) (u : Nat) (t0 t1 : AV) (m : Mem) (fc : Nat) : Option (AV × Mem) :=
  (sLen Try.prog x6 t0).bind fun t7 =>
  x1s call hs u NN t0 t1 t7 (I 0) m (fc + 3)
noncomputable def x97 (call : FCall) (hs : FHs) (u : Nat) (t0 t1 : AV) (m : Mem) (fc : Nat) : Option (AV × Mem) :=
  x7o call hs u t0 t1 m (fc + 1)
noncomputable def x51 (call : FCall) (hs : FHs) (args : List AV) (m : Mem) : Option (AV × Mem) :=
  match args with
  | [t0, t1] => x97 call hs m.next t0 t1 ⟨m.hp, m.next + 1⟩ 0
  | _ => none

noncomputable def xcz (call : FCall) (hs : FHs) (u : Nat) (t0 : AV) (m : Mem) (fc : Nat) : Option (AV × Mem) :=
  (sGt t0 (I 0)).bind fun t4 =>
  some (t4, m)
noncomputable def x6k (call : FCall) (hs : FHs) (args : List AV) (m : Mem) : Option (AV × Mem) :=
  match args with
  | [t0] => xcz call hs m.next t0 ⟨m.hp, m.next + 1⟩ 0
  | _ => none

noncomputable def xao (call : FCall) (hs : FHs) (u : Nat) (rec0 : AV → AV → AV → AV → AV → AV → Mem → Nat → Option (AV × Mem)) (t0 t4 t5 t136 t137 t138 : AV) (m : Mem) (fc : Nat) : Option (AV × Mem) :=
  (sLt t138 t137).bind fun t139 =>
  sCond t139
  ((sIx 1 t136 t138).bind fun t141 =>
  (sLd false 1 t141 m).bind fun t142 =>
  (sNil t0).bind fun t144 =>
  (sFA 3 t144).bind fun t145 =>
  (sLd false 1 t145 m).bind fun t146 =>
  (sIx 1 t146 t138).bind fun t148 =>
  (sLd false 1 t148 m).bind fun t149 =>
  (sFA 0 t4).bind fun t151 =>
  (sLd false 1 t151 m).bind fun t152 =>
  (sIx 1 t152 t5).bind fun t154 =>
  (sLd false 1 t154 m).bind fun t155 =>
  (sMin t142 t155).bind fun t156 =>
  (sAdd t149 t156).bind fun t157 =>
  (sIx 1 t146 t138).bind fun t158 =>
  sSt 1 t158 t157 m fun m_1 =>
  (sAdd t138 (I 1)).bind fun t159 =>
  rec0 t0 t4 t5 t136 t137 t159 m_1 (fc + 25))
  ((some (AV.tup [], m)))
noncomputable def x4o (call : FCall) (hs : FHs) (u : Nat) : Nat → AV → AV → AV → AV → AV → AV → Mem → Nat → Option (AV × Mem)
  | 0 => fun _ _ _ _ _ _ _ _ => none
  | n + 1 => fun t0 t4 t5 t136 t137 t138 m fc => xao call hs u (x4o call hs u n) t0 t4 t5 t136 t137 t138 m fc
noncomputable def x3v (call : FCall) (hs : FHs) (u : Nat) (t0 t1 t4 t5 t8 : AV) (m : Mem) (fc : Nat) : Option (AV × Mem) :=
  (sNil t0).bind fun t116 =>
  (sFA 4 t116).bind fun t117 =>
  (sLd false 1 t117 m).bind fun t118 =>
  (sIx 1 t118 t1).bind fun t120 =>
  (sLd false 1 t120 m).bind fun t121 =>
  (sSub t121 t8).bind fun t123 =>
  (sIx 1 t118 t1).bind fun t124 =>
  sSt 1 t124 t123 m fun m_2 =>
  (sNil t0).bind fun t126 =>
  (sFA 4 t126).bind fun t127 =>
  (sLd false 1 t127 m_2).bind fun t128 =>
  (sIx 1 t128 t5).bind fun t130 =>
  (sLd false 1 t130 m_2).bind fun t131 =>
  (sAdd t131 t8).bind fun t133 =>
  (sIx 1 t128 t5).bind fun t134 =>
  sSt 1 t134 t133 m_2 fun m_3 =>
  (sFA 0 t4).bind fun t135 =>
  (sLd false 1 t135 m_3).bind fun t136 =>
  (sLen Try.prog x6 t136).bind fun t137 =>
  x4o call hs u NN t0 t4 t5 t136 t137 (I 0) m_3 (fc + 26)
noncomputable def xap (call : FCall) (hs : FHs) (u : Nat) (rec1 : AV → AV → AV → AV → AV → AV → Mem → Nat → Option (AV × Mem)) (t0 t1 t4 t5 t8 t10 : AV) (m : Mem) (fc : Nat) : Option (AV × Mem) :=
  (sNe t10 t1).bind fun t87 =>
  sCond t87
  ((sNil t0).bind fun t94 =>
  (sFA 2 t94).bind fun t95 =>
  (sLd false 1 t95 m).bind fun t96 =>
  (sFA 1 t4).bind fun t97 =>
  (sLd false 1 t97 m).bind fun t98 =>
  (sIx 5 t98 t10).bind fun t100 =>
  (sFA 0 t100).bind fun t101 =>
  (sLd false 1 t101 m).bind fun t102 =>
  (sIx 1 t96 t102).bind fun t103 =>
  (sLd false 1 t103 m).bind fun t104 =>
  (sFA 1 t4).bind fun t105 =>
  (sLd false 1 t105 m).bind fun t106 =>
  (sIx 5 t106 t10).bind fun t108 =>
  (sFA 2 t108).bind fun t109 =>
  (sLd false 1 t109 m).bind fun t110 =>
  (sMul t110 t8).bind fun t112 =>
  (sAdd t104 t112).bind fun t113 =>
  (sIx 1 t96 t102).bind fun t114 =>
  sSt 1 t114 t113 m fun m_4 =>
  (sFA 2 t4).bind fun t88 =>
  (sLd false 1 t88 m_4).bind fun t89 =>
  (sIx 1 t89 t10).bind fun t91 =>
  (sLd false 1 t91 m_4).bind fun t92 =>
  rec1 t0 t1 t4 t5 t8 t92 m_4 (fc + 32))
  (x3v call hs u t0 t1 t4 t5 t8 m (fc + 3))
noncomputable def x4p (call : FCall) (hs : FHs) (u : Nat) : Nat → AV → AV → AV → AV → AV → AV → Mem → Nat → Option (AV × Mem)
  | 0 => fun _ _ _ _ _ _ _ _ => none
  | n + 1 => fun t0 t1 t4 t5 t8 t10 m fc => xap call hs u (x4p call hs u n) t0 t1 t4 t5 t8 t10 m fc
noncomputable def x33 (call : FCall) (hs : FHs) (u : Nat) (t0 t1 t4 t5 t8 : AV) (m : Mem) (fc : Nat) : Option (AV × Mem) :=
  x4p call hs u NN t0 t1 t4 t5 t8 t5 m (fc + 2)
noncomputable def xaq (call : FCall) (hs : FHs) (u : Nat) (rec2 : AV → AV → AV → AV → AV → AV → Mem → Nat → Option (AV × Mem)) (t0 t1 t4 t5 t8 t9 : AV) (m : Mem) (fc : Nat) : Option (AV × Mem) :=
  (sNe t9 t1).bind fun t70 =>
  sCond t70
  ((sFA 1 t4).bind fun t77 =>
  (sLd false 1 t77 m).bind fun t78 =>
  (sIx 5 t78 t9).bind fun t80 =>
  (sFA 3 t80).bind fun t81 =>
  (sLd false 1 t81 m).bind fun t82 =>
  (sMin t8 t82).bind fun t83 =>
  (sFA 2 t4).bind fun t71 =>
  (sLd false 1 t71 m).bind fun t72 =>
  (sIx 1 t72 t9).bind fun t74 =>
  (sLd false 1 t74 m).bind fun t75 =>
  rec2 t0 t1 t4 t5 t83 t75 m (fc + 18))
  (x33 call hs u t0 t1 t4 t5 t8 m (fc + 3))
noncomputable def x4q (call : FCall) (hs : FHs) (u : Nat) : Nat → AV → AV → AV → AV → AV → AV → Mem → Nat → Option (AV × Mem)
  | 0 => fun _ _ _ _ _ _ _ _ => none
  | n + 1 => fun t0 t1 t4 t5 t8 t9 m fc => xaq call hs u (x4q call hs u n) t0 t1 t4 t5 t8 t9 m fc
noncomputable def xar (call : FCall) (hs : FHs) (u : Nat) (t0 t1 t4 t5 t8 : AV) (m : Mem) (fc : Nat) : Option (AV × Mem) :=
  x4q call hs u NN t0 t1 t4 t5 t8 t5 m (fc + 2)
noncomputable def x2d (call : FCall) (hs : FHs) (u : Nat) (t0 t1 t4 t5 : AV) (m : Mem) (fc : Nat) : Option (AV × Mem) :=
  (sNil t0).bind fun t52 =>
  (sFA 4 t52).bind fun t53 =>
  (sLd false 1 t53 m).bind fun t54 =>
  (sIx 1 t54 t1).bind fun t56 =>
  (sLd false 1 t56 m).bind fun t57 =>
  (sNil t0).bind fun t59 =>
  (sFA 4 t59).bind fun t60 =>
  (sLd false 1 t60 m).bind fun t61 =>
  (sIx 1 t61 t5).bind fun t63 =>
  (sLd false 1 t63 m).bind fun t64 =>
  (sNeg t64).bind fun t65 =>
  (sMin t57 t65).bind fun t66 =>
  xar call hs u t0 t1 t4 t5 t66 m (fc + 17)
noncomputable def x4r (call : FCall) (hs : FHs) (u : Nat) (rec3 : AV → AV → AV → AV → AV → AV → AV → Mem → Nat → Option (AV × Mem)) (t0 t1 t4 t5 t17 t18 t19 : AV) (m : Mem) (fc : Nat) : Option (AV × Mem) :=
  (sAdd t19 (I 1)).bind fun t50 =>
  rec3 t0 t1 t4 t5 t17 t18 t50 m (fc + 2)
noncomputable def x98 (call : FCall) (hs : FHs) (u : Nat) (rec3 : AV → AV → AV → AV → AV → AV → AV → Mem → Nat → Option (AV × Mem)) (t0 t1 t4 t5 t17 t18 t19 : AV) (m : Mem) (fc : Nat) : Option (AV × Mem) :=
  (sIx 1 t17 t19).bind fun t22 =>
  (sLd false 1 t22 m).bind fun t23 =>
  (sNil t0).bind fun t25 =>
  (sFA 4 t25).bind fun t26 =>
  (sLd false 1 t26 m).bind fun t27 =>
  (sIx 1 t27 t19).bind fun t29 =>
  (sLd false 1 t29 m).bind fun t30 =>
  (sLt t30 (I 0)).bind fun t31 =>
  (bif sW t31 true then some (t23, m) else some (U, m)).bind fun p33 =>
  (bif sW t31 true then (sLt p33.1 (I 1152921504606846976)).bind fun v => some (v, p33.2) else some (U, p33.2)).bind fun p34 =>
  (sPick t31 p34.1 (B false)).bind fun t35 =>
  (bif sW t35 true then some (t5, p34.2) else some (U, p34.2)).bind fun p37 =>
  (bif sW t35 true then (sLt p37.1 (I 0)).bind fun v => some (v, p37.2) else some (U, p37.2)).bind fun p38 =>
  (bif sW t35 true then some (p38.1, p38.2) else some (U, p38.2)).bind fun p39 =>
  (bif sW p39.1 false then some (t23, p39.2) else some (U, p39.2)).bind fun p40 =>
  (bif sW p39.1 false then (sFA 0 t4).bind fun v => some (v, p40.2) else some (U, p40.2)).bind fun p41 =>
  (bif sW p39.1 false then (sLd false 1 p41.1 p41.2).bind fun v => some (v, p41.2) else some (U, p41.2)).bind fun p42 =>
  (bif sW p39.1 false then some (t5, p42.2) else some (U, p42.2)).bind fun p43 =>
  (bif sW p39.1 false then (sIx 1 p42.1 p43.1).bind fun v => some (v, p43.2) else some (U, p43.2)).bind fun p44 =>
  (bif sW p39.1 false then (sLd false 1 p44.1 p44.2).bind fun v => some (v, p44.2) else some (U, p44.2)).bind fun p45 =>
  (bif sW p39.1 false then (sLt p40.1 p45.1).bind fun v => some (v, p45.2) else some (U, p45.2)).bind fun p46 =>
  (bif sW t35 true then (sPick p39.1 (B true) p46.1).bind fun v => some (v, p46.2) else some (U, p46.2)).bind fun p47 =>
  (sPick t35 p47.1 (B false)).bind fun t48 =>
  sCond t48
  (x4r call hs u rec3 t0 t1 t4 t19 t17 t18 t19 p47.2 (fc + 32))
  (x4r call hs u rec3 t0 t1 t4 t5 t17 t18 t19 p47.2 (fc + 30))
noncomputable def x99 (call : FCall) (hs : FHs) (u : Nat) (rec3 : AV → AV → AV → AV → AV → AV → AV → Mem → Nat → Option (AV × Mem)) (t0 t1 t4 t5 t17 t18 t19 : AV) (m : Mem) (fc : Nat) : Option (AV × Mem) :=
  (sLt t19 t18).bind fun t20 =>
  sCond t20
  (x98 call hs u rec3 t0 t1 t4 t5 t17 t18 t19 m (fc + 1))
  (x2d call hs u t0 t1 t4 t5 m (fc + 1))
noncomputable def x3w (call : FCall) (hs : FHs) (u : Nat) : Nat → AV → AV → AV → AV → AV → AV → AV → Mem → Nat → Option (AV × Mem)
  | 0 => fun _ _ _ _ _ _ _ _ _ => none
  | n + 1 => fun t0 t1 t4 t5 t17 t18 t19 m fc => x99 call hs u (x3w call hs u n) t0 t1 t4 t5 t17 t18 t19 m fc
noncomputable def xas (call : FCall) (hs : FHs) (u : Nat) (t0 t1 t4 t5 : AV) (m : Mem) (fc : Nat) : Option (AV × Mem) :=
  (sFA 0 t4).bind fun t16 =>
  (sLd false 1 t16 m).bind fun t17 =>
  (sLen Try.prog x6 t17).bind fun t18 =>
  x3w call hs u NN t0 t1 t4 t5 t17 t18 (I 0) m (fc + 4)
noncomputable def xd0 (call : FCall) (hs : FHs) (u : Nat) (t0 t1 : AV) (m : Mem) (fc : Nat) : Option (AV × Mem) :=
  (sCall4 call x8 [t0, t1] m).bind fun p15 =>
  sAlloc x7l (u, fc + 3, 4) p15.2 fun t4 m_5 =>
  sSt 3 t4 p15.1 m_5 fun m_6 =>
  xas call hs u t0 t1 t4 (I (-1)) m_6 (fc + 6)
noncomputable def x79 (call : FCall) (hs : FHs) (args : List AV) (m : Mem) : Option (AV × Mem) :=
  match args with
  | [t0, t1] => xd0 call hs m.next t0 t1 ⟨m.hp, m.next + 1⟩ 0
  | _ => none

noncomputable def xd1 (call : FCall) (hs : FHs) (u : Nat) (t0 : AV) (m : Mem) (fc : Nat) : Option (AV × Mem) :=
  (sNeg t0).bind fun t5 =>
  (sMax t0 t5).bind fun t6 =>
  some (t6, m)
noncomputable def x6j (call : FCall) (hs : FHs) (args : List AV) (m : Mem) : Option (AV × Mem) :=
  match args with
  | [t0] => xd1 call hs m.next t0 ⟨m.hp, m.next + 1⟩ 0
  | _ => none

noncomputable def xkt (call : FCall) (hs : FHs) (u : Nat) (t0 t1 : AV) (m : Mem) (fc : Nat) : Option (AV × Mem) :=
  sBox t0 (u, fc, 2) m fun t2 m_1 =>
  sBox t1 (u, fc + 1, 3) m_1 fun t3 m_2 =>
  some ((AV.clo xg [t3, t2]), m_2)
noncomputable def x8o (call : FCall) (hs : FHs) (args : List AV) (m : Mem) : Option (AV × Mem) :=
  match args with
  | [t0, t1] => xkt call hs m.next t0 t1 ⟨m.hp, m.next + 1⟩ 0
  | _ => none

noncomputable def xku (call : FCall) (hs : FHs) (u : Nat) (t0 t1 : AV) (m : Mem) (fc : Nat) : Option (AV × Mem) :=
  (sCall0 call x3o [t0] m).bind fun p5 =>
  (sNot p5.1).bind fun t6 =>
  (bif sW t6 true then (sLd false 1 t1 p5.2).bind fun v => some (v, p5.2) else some (U, p5.2)).bind fun p8 =>
  (bif sW t6 true then some (t0, p8.2) else some (U, p8.2)).bind fun p9 =>
  (bif sW t6 true then (fxInv call hs 2 p8.1 [p9.1] p9.2).bind fun p => some (p.1, p.2) else some (U, p9.2)).bind fun p10 =>
  (bif sW t6 true then (sNot p10.1).bind fun v => some (v, p10.2) else some (U, p10.2)).bind fun p11 =>
  (sPick t6 p11.1 (B false)).bind fun t12 =>
  some (t12, p11.2)
noncomputable def x8p (call : FCall) (hs : FHs) (args : List AV) (m : Mem) : Option (AV × Mem) :=
  match args with
  | [t0, t1] => xku call hs m.next t0 t1 ⟨m.hp, m.next + 1⟩ 0
  | _ => none

noncomputable def x7p (call : FCall) (hs : FHs) (u : Nat) (t0 : AV) (m : Mem) (fc : Nat) : Option (AV × Mem) :=
  some (t0, m)
noncomputable def x7q (call : FCall) (hs : FHs) (u : Nat) (t0 t1 : AV) (m : Mem) (fc : Nat) : Option (AV × Mem) :=
  (sBuiltin Try.prog .cap #[x6] y_int [t0]).bind fun t10 =>
  (sLen Try.prog x6 t0).bind fun t12 =>
  (sSub t10 t12).bind fun t13 =>
  (sSub t1 t13).bind fun t14 =>
  (sGt t14 (I 0)).bind fun t16 =>
  sCond t16
  ((sBuiltin Try.prog .cap #[x6] y_int [t0]).bind fun t19 =>
  (sSlice Try.prog x6 t0 none (some t19)).bind fun t20 =>
  sApp 1 8 (u, fc + 15, 22) (sMore z_int 1 8 t14) t20 m fun t22 m_1 =>
  (sLen Try.prog x6 t0).bind fun t24 =>
  (sSlice Try.prog x6 t22 none (some t24)).bind fun t25 =>
  x7p call hs u t25 m_1 (fc + 20))
  (x7p call hs u t0 m (fc + 10))
noncomputable def x9a (call : FCall) (hs : FHs) (u : Nat) (t0 t1 : AV) (m : Mem) (fc : Nat) : Option (AV × Mem) :=
  (sLt t1 (I 0)).bind fun t6 =>
  sCond t6
  (none)
  (x7q call hs u t0 t1 m (fc + 2))
noncomputable def xat (call : FCall) (hs : FHs) (u : Nat) (t0 t1 : AV) (m : Mem) (fc : Nat) : Option (AV × Mem) :=
  x9a call hs u t0 t1 m (fc + 1)
noncomputable def x67 (call : FCall) (hs : FHs) (args : List AV) (m : Mem) : Option (AV × Mem) :=
  match args with
  | [t0, t1] => xat call hs m.next t0 t1 ⟨m.hp, m.next + 1⟩ 0
  | _ => none

noncomputable def x1d (call : FCall) (hs : FHs) (u : Nat) (t5 : AV) (m : Mem) (fc : Nat) : Option (AV × Mem) :=
  (sLd false 1 t5 m).bind fun t44 =>
  some (t44, m)
noncomputable def x1t (call : FCall) (hs : FHs) (u : Nat) (rec0 : AV → AV → AV → AV → AV → Mem → Nat → Option (AV × Mem)) (t1 t5 t6 t14 t15 : AV) (m : Mem) (fc : Nat) : Option (AV × Mem) :=
  (sAdd t15 (I 1)).bind fun t43 =>
  rec0 t1 t5 t6 t14 t43 m (fc + 2)
noncomputable def x4s (call : FCall) (hs : FHs) (u : Nat) (rec0 : AV → AV → AV → AV → AV → Mem → Nat → Option (AV × Mem)) (t1 t5 t6 t14 t15 : AV) (m : Mem) (fc : Nat) : Option (AV × Mem) :=
  (sLd false 1 t6 m).bind fun t41 =>
  (sAdd t41 (I 1)).bind fun t42 =>
  sSt 1 t6 t42 m fun m_1 =>
  x1t call hs u rec0 t1 t5 t6 t14 t15 m_1 (fc + 3)
noncomputable def x9b (call : FCall) (hs : FHs) (u : Nat) (rec0 : AV → AV → AV → AV → AV → Mem → Nat → Option (AV × Mem)) (rec1 : AV → AV → AV → AV → AV → AV → Mem → Nat → Option (AV × Mem)) (t1 t5 t6 t8 t14 t15 : AV) (m : Mem) (fc : Nat) : Option (AV × Mem) :=
  (sLd false 1 t8 m).bind fun t29 =>
  (sLen Try.prog x6 t29).bind fun t30 =>
  (sGt t30 (I 0)).bind fun t31 =>
  sCond t31
  ((sLd false 1 t8 m).bind fun t32 =>
  (sIx 1 t32 (I 0)).bind fun t33 =>
  (sLd false 1 t33 m).bind fun t34 =>
  (sLd false 1 t8 m).bind fun t35 =>
  (sSlice Try.prog x6 t35 (some (I 1)) none).bind fun t36 =>
  sSt 1 t8 t36 m fun m_2 =>
  (fxInv call hs 2 t1 [t34, (AV.clo x2f [t5, t6, t8])] m_2).bind fun p40 =>
  rec1 t1 t5 t6 t8 t14 t15 p40.2 (fc + 14))
  (x4s call hs u rec0 t1 t5 t6 t14 t15 m (fc + 3))
noncomputable def x34 (call : FCall) (hs : FHs) (u : Nat) (rec0 : AV → AV → AV → AV → AV → Mem → Nat → Option (AV × Mem)) : Nat → AV → AV → AV → AV → AV → AV → Mem → Nat → Option (AV × Mem)
  | 0 => fun _ _ _ _ _ _ _ _ => none
  | n + 1 => fun t1 t5 t6 t8 t14 t15 m fc => x9b call hs u rec0 (x34 call hs u rec0 n) t1 t5 t6 t8 t14 t15 m fc
noncomputable def x7r (call : FCall) (hs : FHs) (u : Nat) (rec0 : AV → AV → AV → AV → AV → Mem → Nat → Option (AV × Mem)) (t1 t5 t6 t14 t15 : AV) (m : Mem) (fc : Nat) : Option (AV × Mem) :=
  (sLd false 1 t5 m).bind fun t18 =>
  (sIx 1 t18 t15).bind fun t20 =>
  (sLd false 1 t20 m).bind fun t21 =>
  (sGe t21 (I 0)).bind fun t22 =>
  sCond t22
  (x1t call hs u rec0 t1 t5 t6 t14 t15 m (fc + 7))
  ((sLd false 1 t5 m).bind fun t23 =>
  (sLd false 1 t6 m).bind fun t25 =>
  (sIx 1 t23 t15).bind fun t26 =>
  sSt 1 t26 t25 m fun m_3 =>
  sMkLit z_int [(0, 1, t15)] 1 1 (u, fc + 13, 28) m_3 fun t28 m_4 =>
  sAlloc x2k (u, fc + 14, 8) m_4 fun t8 m_5 =>
  sSt 1 t8 t28 m_5 fun m_6 =>
  x34 call hs u rec0 NN t1 t5 t6 t8 t14 t15 m_6 (fc + 16))
noncomputable def x9c (call : FCall) (hs : FHs) (u : Nat) (rec0 : AV → AV → AV → AV → AV → Mem → Nat → Option (AV × Mem)) (t1 t5 t6 t14 t15 : AV) (m : Mem) (fc : Nat) : Option (AV × Mem) :=
  (sLt t15 t14).bind fun t16 =>
  sCond t16
  (x7r call hs u rec0 t1 t5 t6 t14 t15 m (fc + 1))
  (x1d call hs u t5 m (fc + 1))
noncomputable def x35 (call : FCall) (hs : FHs) (u : Nat) : Nat → AV → AV → AV → AV → AV → Mem → Nat → Option (AV × Mem)
  | 0 => fun _ _ _ _ _ _ _ => none
  | n + 1 => fun t1 t5 t6 t14 t15 m fc => x9c call hs u (x35 call hs u n) t1 t5 t6 t14 t15 m fc
noncomputable def xau (call : FCall) (hs : FHs) (u : Nat) (t1 t5 t6 : AV) (m : Mem) (fc : Nat) : Option (AV × Mem) :=
  (sLd false 1 t5 m).bind fun t13 =>
  (sLen Try.prog x6 t13).bind fun t14 =>
  x35 call hs u NN t1 t5 t6 t14 (I 0) m (fc + 3)
noncomputable def xd2 (call : FCall) (hs : FHs) (u : Nat) (t0 t1 : AV) (m : Mem) (fc : Nat) : Option (AV × Mem) :=
  sMkLit z_int [(0, 1, (I (-1)))] 1 1 (u, fc + 1, 10) m fun t10 m_7 =>
  (sCall1 call xm [t10, t0] m_7).bind fun p12 =>
  sAlloc x2k (u, fc + 4, 5) p12.2 fun t5 m_8 =>
  sSt 1 t5 p12.1 m_8 fun m_9 =>
  sAlloc z_int (u, fc + 6, 6) m_9 fun t6 m_10 =>
  sSt 1 t6 (I 0) m_10 fun m_11 =>
  xau call hs u t1 t5 t6 m_11 (fc + 8)
noncomputable def x7a (call : FCall) (hs : FHs) (args : List AV) (m : Mem) : Option (AV × Mem) :=
  match args with
  | [t0, t1] => xd2 call hs m.next t0 t1 ⟨m.hp, m.next + 1⟩ 0
  | _ => none

noncomputable def xav (call : FCall) (hs : FHs) (u : Nat) (rec0 : AV → AV → AV → AV → Mem → Nat → Option (AV × Mem)) (t1 t10 t11 t12 : AV) (m : Mem) (fc : Nat) : Option (AV × Mem) :=
  (sLt t12 t11).bind fun t13 =>
  sCond t13
  ((sIx 1 t10 t12).bind fun t14 =>
  (sLd false 1 t14 m).bind fun t15 =>
  (fxInv call hs 2 t1 [t15] m).bind fun p18 =>
  (sAdd t12 (I 1)).bind fun t19 =>
  rec0 t1 t10 t11 t19 p18.2 (fc + 9))
  ((some (AV.tup [], m)))
noncomputable def x4t (call : FCall) (hs : FHs) (u : Nat) : Nat → AV → AV → AV → AV → Mem → Nat → Option (AV × Mem)
  | 0 => fun _ _ _ _ _ _ => none
  | n + 1 => fun t1 t10 t11 t12 m fc => xav call hs u (x4t call hs u n) t1 t10 t11 t12 m fc
noncomputable def xaw (call : FCall) (hs : FHs) (u : Nat) (t0 t1 t2 : AV) (m : Mem) (fc : Nat) : Option (AV × Mem) :=
  (sLd false 1 t2 m).bind fun t7 =>
  (sIx 1 t7 t0).bind fun t9 =>
  (sLd false 1 t9 m).bind fun t10 =>
  (sLen Try.prog x6 t10).bind fun t11 =>
  x4t call hs u NN t1 t10 t11 (I 0) m (fc + 6)
noncomputable def x81 (call : FCall) (hs : FHs) (args : List AV) (m : Mem) : Option (AV × Mem) :=
  match args with
  | [t0, t1, t2] => xaw call hs m.next t0 t1 t2 ⟨m.hp, m.next + 1⟩ 0
  | _ => none

noncomputable def x7s (call : FCall) (hs : FHs) (u : Nat) (t2 t5 t7 t10 : AV) (m : Mem) (fc : Nat) : Option Mem :=
  (sFA 0 t5).bind fun t88 =>
  (sLd false 1 t88 m).bind fun t89 =>
  (sLd false 1 t7 m).bind fun t90 =>
  (sIx 1 t89 t90).bind fun t91 =>
  (sLd false 1 t91 m).bind fun t92 =>
  (sFA 4 t10).bind fun t93 =>
  (sLd false 1 t93 m).bind fun t94 =>
  (sAdd t92 t94).bind fun t95 =>
  (sLd false 1 t2 m).bind fun t96 =>
  (sNil t96).bind fun t97 =>
  (sFA 3 t97).bind fun t98 =>
  (sLd false 1 t98 m).bind fun t99 =>
  (sLd false 1 t7 m).bind fun t100 =>
  (sIx 1 t99 t100).bind fun t101 =>
  (sLd false 1 t101 m).bind fun t102 =>
  (sAdd t95 t102).bind fun t103 =>
  (sLd false 1 t2 m).bind fun t104 =>
  (sNil t104).bind fun t105 =>
  (sFA 3 t105).bind fun t106 =>
  (sLd false 1 t106 m).bind fun t107 =>
  (sFA 1 t10).bind fun t108 =>
  (sLd false 1 t108 m).bind fun t109 =>
  (sIx 1 t107 t109).bind fun t110 =>
  (sLd false 1 t110 m).bind fun t111 =>
  (sSub t103 t111).bind fun t112 =>
  (sFA 0 t5).bind fun t114 =>
  (sLd false 1 t114 m).bind fun t115 =>
  (sFA 1 t10).bind fun t116 =>
  (sLd false 1 t116 m).bind fun t117 =>
  (sIx 1 t115 t117).bind fun t118 =>
  (sLd false 1 t118 m).bind fun t119 =>
  (sLt t112 t119).bind fun t120 =>
  sCond t120
  ((sFA 0 t5).bind fun t121 =>
  (sLd false 1 t121 m).bind fun t122 =>
  (sFA 1 t10).bind fun t123 =>
  (sLd false 1 t123 m).bind fun t124 =>
  (sFA 1 t5).bind fun t125 =>
  (sLd false 1 t125 m).bind fun t126 =>
  (sFA 1 t10).bind fun t127 =>
  (sLd false 1 t127 m).bind fun t128 =>
  (sFA 2 t5).bind fun t129 =>
  (sLd false 1 t129 m).bind fun t130 =>
  (sFA 1 t10).bind fun t131 =>
  (sLd false 1 t131 m).bind fun t132 =>
  (sLd true 5 t10 m).bind fun t134 =>
  (sLd false 1 t7 m).bind fun t135 =>
  (sIx 1 t122 t124).bind fun t136 =>
  sSt 1 t136 t112 m fun m_1 =>
  (sIx 5 t126 t128).bind fun t137 =>
  sSt 5 t137 t134 m_1 fun m_2 =>
  (sIx 1 t130 t132).bind fun t138 =>
  sSt 1 t138 t135 m_2 fun m_3 =>
  bif (apartIds (tR t125) (tS t136) && (apartIds (tR t127) (tS t136) && (apartIds (tR t129) (tS t136) && (apartIds (tR t131) (tS t136) && (apartIds (tR t10) (tS t136) && (apartIds (tR t7) (tS t136) && (apartIds (tR t129) (tS t137) && (apartIds (tR t131) (tS t137) && (apartIds (tR t7) (tS t137) && true))))))))) then
  some m_3 else none)
  (some m)
noncomputable def x5e (call : FCall) (hs : FHs) (u : Nat) (t2 t5 t7 t87 : AV) (m : Mem) (fc : Nat) : Option Mem :=
  sAlloc x7t (u, fc, 10) m fun t10 m_4 =>
  sSt 5 t10 t87 m_4 fun m_5 =>
  x7s call hs u t2 t5 t7 t10 m_5 (fc + 2)
noncomputable def xax (call : FCall) (hs : FHs) (u : Nat) (rec0 : AV → AV → AV → AV → Mem → Nat → Option (AV × Mem)) (t2 t4 t5 t6 t7 t86 : AV) (m : Mem) (fc : Nat) : Option (AV × Mem) :=
  sRng t86 fun g caps =>
  (call (((u, fc, 0), fun args m => bif Nat.beq args.length 1 && true then x5e call hs m.next t2 t5 t7 (args.getD 0 U) ⟨m.hp, m.next + 1⟩ 0 else none) :: hs) g (.yld (u, fc, 0) :: caps) m).bind fun p => rec0 t2 t4 t5 t6 p.2 (fc + 1)
noncomputable def x1u (call : FCall) (hs : FHs) (u : Nat) (rec0 : AV → AV → AV → AV → Mem → Nat → Option (AV × Mem)) (t2 t4 t5 t6 t7 : AV) (m : Mem) (fc : Nat) : Option (AV × Mem) :=
  (sLd false 1 t7 m).bind fun t78 =>
  (sLt t78 (I 0)).bind fun t79 =>
  sCond t79
  ((sLd true 3 t5 m).bind fun t80 =>
  sSt 3 t4 t80 m fun m_6 =>
  (sLdP true 3 t4 m_6).bind fun r0 =>
  some (r0, m_6))
  ((sLd false 1 t7 m).bind fun t82 =>
  (sIx 1 t6 t82).bind fun t83 =>
  sSt 1 t83 (B true) m fun m_7 =>
  (sLd false 1 t2 m_7).bind fun t84 =>
  (sLd false 1 t7 m_7).bind fun t85 =>
  (call hs x4y [t84, t85] m_7).bind fun p86 =>
  xax call hs u rec0 t2 t4 t5 t6 t7 p86.1 p86.2 (fc + 9))
noncomputable def x4u (call : FCall) (hs : FHs) (u : Nat) (rec0 : AV → AV → AV → AV → Mem → Nat → Option (AV × Mem)) (rec1 : AV → AV → AV → AV → AV → AV → AV → AV → Mem → Nat → Option (AV × Mem)) (t2 t4 t5 t6 t7 t47 t48 t49 : AV) (m : Mem) (fc : Nat) : Option (AV × Mem) :=
  (sAdd t49 (I 1)).bind fun t77 =>
  rec1 t2 t4 t5 t6 t7 t47 t48 t77 m (fc + 2)
noncomputable def x9d (call : FCall) (hs : FHs) (u : Nat) (rec0 : AV → AV → AV → AV → Mem → Nat → Option (AV × Mem)) (rec1 : AV → AV → AV → AV → AV → AV → AV → AV → Mem → Nat → Option (AV × Mem)) (t2 t4 t5 t6 t7 t47 t48 t49 : AV) (m : Mem) (fc : Nat) : Option (AV × Mem) :=
  (sIx 1 t47 t49).bind fun t52 =>
  (sLd false 1 t52 m).bind fun t53 =>
  (sIx 1 t6 t49).bind fun t56 =>
  (sLd false 1 t56 m).bind fun t57 =>
  (sNot t57).bind fun t58 =>
  (bif sW t58 true then some (t53, m) else some (U, m)).bind fun p60 =>
  (bif sW t58 true then (sLt p60.1 (I 1152921504606846976)).bind fun v => some (v, p60.2) else some (U, p60.2)).bind fun p61 =>
  (sPick t58 p61.1 (B false)).bind fun t62 =>
  (bif sW t62 true then (sLd false 1 t7 p61.2).bind fun v => some (v, p61.2) else some (U, p61.2)).bind fun p64 =>
  (bif sW t62 true then (sLt p64.1 (I 0)).bind fun v => some (v, p64.2) else some (U, p64.2)).bind fun p65 =>
  (bif sW t62 true then some (p65.1, p65.2) else some (U, p65.2)).bind fun p66 =>
  (bif sW p66.1 false then some (t53, p66.2) else some (U, p66.2)).bind fun p67 =>
  (bif sW p66.1 false then (sFA 0 t5).bind fun v => some (v, p67.2) else some (U, p67.2)).bind fun p68 =>
  (bif sW p66.1 false then (sLd false 1 p68.1 p68.2).bind fun v => some (v, p68.2) else some (U, p68.2)).bind fun p69 =>
  (bif sW p66.1 false then (sLd false 1 t7 p69.2).bind fun v => some (v, p69.2) else some (U, p69.2)).bind fun p70 =>
  (bif sW p66.1 false then (sIx 1 p69.1 p70.1).bind fun v => some (v, p70.2) else some (U, p70.2)).bind fun p71 =>
  (bif sW p66.1 false then (sLd false 1 p71.1 p71.2).bind fun v => some (v, p71.2) else some (U, p71.2)).bind fun p72 =>
  (bif sW p66.1 false then (sLt p67.1 p72.1).bind fun v => some (v, p72.2) else some (U, p72.2)).bind fun p73 =>
  (bif sW t62 true then (sPick p66.1 (B true) p73.1).bind fun v => some (v, p73.2) else some (U, p73.2)).bind fun p74 =>
  (sPick t62 p74.1 (B false)).bind fun t75 =>
  sCond t75
  (sSt 1 t7 t49 p74.2 fun m_8 =>
  x4u call hs u rec0 rec1 t2 t4 t5 t6 t7 t47 t48 t49 m_8 (fc + 29))
  (x4u call hs u rec0 rec1 t2 t4 t5 t6 t7 t47 t48 t49 p74.2 (fc + 27))
noncomputable def x9e (call : FCall) (hs : FHs) (u : Nat) (rec0 : AV → AV → AV → AV → Mem → Nat → Option (AV × Mem)) (rec1 : AV → AV → AV → AV → AV → AV → AV → AV → Mem → Nat → Option (AV × Mem)) (t2 t4 t5 t6 t7 t47 t48 t49 : AV) (m : Mem) (fc : Nat) : Option (AV × Mem) :=
  (sLt t49 t48).bind fun t50 =>
  sCond t50
  (x9d call hs u rec0 rec1 t2 t4 t5 t6 t7 t47 t48 t49 m (fc + 1))
  (x1u call hs u rec0 t2 t4 t5 t6 t7 m (fc + 1))
noncomputable def x3x (call : FCall) (hs : FHs) (u : Nat) (rec0 : AV → AV → AV → AV → Mem → Nat → Option (AV × Mem)) : Nat → AV → AV → AV → AV → AV → AV → AV → AV → Mem → Nat → Option (AV × Mem)
  | 0 => fun _ _ _ _ _ _ _ _ _ _ => none
  | n + 1 => fun t2 t4 t5 t6 t7 t47 t48 t49 m fc => x9e call hs u rec0 (x3x call hs u rec0 n) t2 t4 t5 t6 t7 t47 t48 t49 m fc
noncomputable def xay (call : FCall) (hs : FHs) (u : Nat) (rec0 : AV → AV → AV → AV → Mem → Nat → Option (AV × Mem)) (t2 t4 t5 t6 t7 : AV) (m : Mem) (fc : Nat) : Option (AV × Mem) :=
  (sFA 0 t5).bind fun t46 =>
  (sLd false 1 t46 m).bind fun t47 =>
  (sLen Try.prog x6 t47).bind fun t48 =>
  x3x call hs u rec0 NN t2 t4 t5 t6 t7 t47 t48 (I 0) m (fc + 4)
noncomputable def xaz (call : FCall) (hs : FHs) (u : Nat) (rec0 : AV → AV → AV → AV → Mem → Nat → Option (AV × Mem)) (t2 t4 t5 t6 : AV) (m : Mem) (fc : Nat) : Option (AV × Mem) :=
  sAlloc z_int (u, fc, 7) m fun t7 m_9 =>
  sSt 1 t7 (I (-1)) m_9 fun m_10 =>
  xay call hs u rec0 t2 t4 t5 t6 t7 m_10 (fc + 2)
noncomputable def x2n (call : FCall) (hs : FHs) (u : Nat) : Nat → AV → AV → AV → AV → Mem → Nat → Option (AV × Mem)
  | 0 => fun _ _ _ _ _ _ => none
  | n + 1 => fun t2 t4 t5 t6 m fc => xaz call hs u (x2n call hs u n) t2 t4 t5 t6 m fc
noncomputable def xd3 (call : FCall) (hs : FHs) (u : Nat) (t0 t1 : AV) (m : Mem) (fc : Nat) : Option (AV × Mem) :=
  sBox t0 (u, fc, 2) m fun t2 m_11 =>
  sAlloc x7l (u, fc + 1, 4) m_11 fun t4 m_12 =>
  sMkLit z_int [(0, 1, (I 1152921504606846976))] 1 1 (u, fc + 2, 12) m_12 fun t12 m_13 =>
  (sLd false 1 t2 m_13).bind fun t13 =>
  (sNil t13).bind fun t14 =>
  (sFA 0 t14).bind fun t15 =>
  (sFA 0 t15).bind fun t16 =>
  (sFA 0 t16).bind fun t17 =>
  (sLd false 1 t17 m_13).bind fun t18 =>
  (sCall1 call xm [t12, t18] m_13).bind fun p19 =>
  (sLd false 1 t2 p19.2).bind fun t20 =>
  (sNil t20).bind fun t21 =>
  (sFA 0 t21).bind fun t22 =>
  (sFA 0 t22).bind fun t23 =>
  (sFA 0 t23).bind fun t24 =>
  (sLd false 1 t24 p19.2).bind fun t25 =>
  sMkSl x7t 5 40 t25 t25 (u, fc + 16, 26) p19.2 fun t26 m_14 =>
  (sLd false 1 t2 m_14).bind fun t27 =>
  (sNil t27).bind fun t28 =>
  (sFA 0 t28).bind fun t29 =>
  (sFA 0 t29).bind fun t30 =>
  (sFA 0 t30).bind fun t31 =>
  (sLd false 1 t31 m_14).bind fun t32 =>
  sMkSl z_int 1 8 t32 t32 (u, fc + 23, 33) m_14 fun t33 m_15 =>
  (sBuild x7l [(0, 1, p19.1), (1, 1, t26), (2, 1, t33)]).bind fun t34 =>
  sAlloc x7l (u, fc + 25, 5) m_15 fun t5 m_16 =>
  sSt 3 t5 t34 m_16 fun m_17 =>
  bif (Nat.ble 1 (mkM 1 [t12, t18]) && true) && (apartIds (some [], some [(u, fc + 2, 12)]) (tR t2) && (apartIds (some [], some [(u, fc + 2, 12)]) (tR t17) && (apartIds (some [], some [(u, fc + 2, 12)]) (tR t2) && (cAp (some m_12.next) (tR t2) (mkM 1 [t12, t18]) && (apartIds (some [], some [(u, fc + 2, 12)]) (tR t24) && (cAp (some m_12.next) (tR t24) (mkM 1 [t12, t18]) && (apartIds (some [], some [(u, fc + 2, 12)]) (some [], some [(u, fc + 16, 26)]) && (apartIds (tR t2) (some [], some [(u, fc + 16, 26)]) && (apartIds (tR t17) (some [], some [(u, fc + 16, 26)]) && (cAp (some m_12.next) (some [], some [(u, fc + 16, 26)]) (mkM 1 [t12, t18]) && (apartIds (some [], some [(u, fc + 2, 12)]) (tR t2) && (cAp (some m_12.next) (tR t2) (mkM 1 [t12, t18]) && (apartIds (some [], some [(u, fc + 16, 26)]) (tR t2) && (apartIds (some [], some [(u, fc + 2, 12)]) (tR t31) && (cAp (some m_12.next) (tR t31) (mkM 1 [t12, t18]) && (apartIds (some [], some [(u, fc + 16, 26)]) (tR t31) && (apartIds (some [], some [(u, fc + 2, 12)]) (some [], some [(u, fc + 23, 33)]) && (apartIds (tR t2) (some [], some [(u, fc + 23, 33)]) && (apartIds (tR t17) (some [], some [(u, fc + 23, 33)]) && (cAp (some m_12.next) (some [], some [(u, fc + 23, 33)]) (mkM 1 [t12, t18]) && (apartIds (tR t2) (some [], some [(u, fc + 23, 33)]) && (apartIds (tR t24) (some [], some [(u, fc + 23, 33)]) && (apartIds (some [], some [(u, fc + 16, 26)]) (some [], some [(u, fc + 23, 33)]) && (apartIds (some [], some [(u, fc + 2, 12)]) (some [], some [(u, fc + 25, 5)]) && (apartIds (tR t2) (some [], some [(u, fc + 25, 5)]) && (apartIds (tR t17) (some [], some [(u, fc + 25, 5)]) && (cAp (some m_12.next) (some [], some [(u, fc + 25, 5)]) (mkM 1 [t12, t18]) && (apartIds (tR t2) (some [], some [(u, fc + 25, 5)]) && (apartIds (tR t24) (some [], some [(u, fc + 25, 5)]) && (apartIds (some [], some [(u, fc + 16, 26)]) (some [], some [(u, fc + 25, 5)]) && (apartIds (tR t2) (some [], some [(u, fc + 25, 5)]) && (apartIds (tR t31) (some [], some [(u, fc + 25, 5)]) && (apartIds (some [], some [(u, fc + 23, 33)]) (some [], some [(u, fc + 25, 5)]) && true))))))))))))))))))))))))))))))))) then
  (sLd false 1 t2 m_17).bind fun t35 =>
  (sNil t35).bind fun t36 =>
  (sFA 0 t36).bind fun t37 =>
  (sFA 0 t37).bind fun t38 =>
  (sFA 0 t38).bind fun t39 =>
  (sLd false 1 t39 m_17).bind fun t40 =>
  sMkSl xkv 1 1 t40 t40 (u, fc + 33, 41) m_17 fun t41 m_18 =>
  (sFA 0 t5).bind fun t42 =>
  (sLd false 1 t42 m_18).bind fun t43 =>
  (sIx 1 t43 t1).bind fun t45 =>
  sSt 1 t45 (I 0) m_18 fun m_19 =>
  x2n call hs u NN t2 t4 t5 t41 m_19 (fc + 40) else none
noncomputable def x6g (call : FCall) (hs : FHs) (args : List AV) (m : Mem) : Option (AV × Mem) :=
  match args with
  | [t0, t1] => xd3 call hs m.next t0 t1 ⟨m.hp, m.next + 1⟩ 0
  | _ => none

noncomputable def xb0 (call : FCall) (hs : FHs) (u : Nat) (rec0 : AV → AV → AV → AV → AV → Mem → Nat → Option (AV × Mem)) (t0 t1 t3 t9 t10 : AV) (m : Mem) (fc : Nat) : Option (AV × Mem) :=
  (sAdd t10 (I 1)).bind fun t52 =>
  rec0 t0 t1 t3 t9 t52 m (fc + 2)
noncomputable def xd4 (call : FCall) (hs : FHs) (u : Nat) (rec0 : AV → AV → AV → AV → AV → Mem → Nat → Option (AV × Mem)) (t0 t1 t3 t9 t10 : AV) (m : Mem) (fc : Nat) : Option (AV × Mem) :=
  (sLd false 1 t3 m).bind fun t13 =>
  (sIx 1 t13 t0).bind fun t15 =>
  (sLd false 1 t15 m).bind fun t16 =>
  (sIx 1 t16 t10).bind fun t18 =>
  (sLd false 1 t18 m).bind fun t19 =>
  (sLt t19 (I 1152921504606846976)).bind fun t20 =>
  (bif sW t20 true then (sLd false 1 t3 m).bind fun v => some (v, m) else some (U, m)).bind fun p22 =>
  (bif sW t20 true then some (t10, p22.2) else some (U, p22.2)).bind fun p23 =>
  (bif sW t20 true then (sIx 1 p22.1 p23.1).bind fun v => some (v, p23.2) else some (U, p23.2)).bind fun p24 =>
  (bif sW t20 true then (sLd false 1 p24.1 p24.2).bind fun v => some (v, p24.2) else some (U, p24.2)).bind fun p25 =>
  (bif sW t20 true then some (t0, p25.2) else some (U, p25.2)).bind fun p26 =>
  (bif sW t20 true then (sIx 1 p25.1 p26.1).bind fun v => some (v, p26.2) else some (U, p26.2)).bind fun p27 =>
  (bif sW t20 true then (sLd false 1 p27.1 p27.2).bind fun v => some (v, p27.2) else some (U, p27.2)).bind fun p28 =>
  (bif sW t20 true then (sLt p28.1 (I 1152921504606846976)).bind fun v => some (v, p28.2) else some (U, p28.2)).bind fun p29 =>
  (sPick t20 p29.1 (B false)).bind fun t30 =>
  (bif sW t30 true then (sLd false 1 t3 p29.2).bind fun v => some (v, p29.2) else some (U, p29.2)).bind fun p32 =>
  (bif sW t30 true then some (t0, p32.2) else some (U, p32.2)).bind fun p33 =>
  (bif sW t30 true then (sIx 1 p32.1 p33.1).bind fun v => some (v, p33.2) else some (U, p33.2)).bind fun p34 =>
  (bif sW t30 true then (sLd false 1 p34.1 p34.2).bind fun v => some (v, p34.2) else some (U, p34.2)).bind fun p35 =>
  (bif sW t30 true then some (t10, p35.2) else some (U, p35.2)).bind fun p36 =>
  (bif sW t30 true then (sIx 1 p35.1 p36.1).bind fun v => some (v, p36.2) else some (U, p36.2)).bind fun p37 =>
  (bif sW t30 true then (sLd false 1 p37.1 p37.2).bind fun v => some (v, p37.2) else some (U, p37.2)).bind fun p38 =>
  (bif sW t30 true then (sLd false 1 t3 p38.2).bind fun v => some (v, p38.2) else some (U, p38.2)).bind fun p39 =>
  (bif sW t30 true then some (t10, p39.2) else some (U, p39.2)).bind fun p40 =>
  (bif sW t30 true then (sIx 1 p39.1 p40.1).bind fun v => some (v, p40.2) else some (U, p40.2)).bind fun p41 =>
  (bif sW t30 true then (sLd false 1 p41.1 p41.2).bind fun v => some (v, p41.2) else some (U, p41.2)).bind fun p42 =>
  (bif sW t30 true then some (t0, p42.2) else some (U, p42.2)).bind fun p43 =>
  (bif sW t30 true then (sIx 1 p42.1 p43.1).bind fun v => some (v, p43.2) else some (U, p43.2)).bind fun p44 =>
  (bif sW t30 true then (sLd false 1 p44.1 p44.2).bind fun v => some (v, p44.2) else some (U, p44.2)).bind fun p45 =>
  (bif sW t30 true then (sAdd p38.1 p45.1).bind fun v => some (v, p45.2) else some (U, p45.2)).bind fun p46 =>
  (bif sW t30 true then (sEq p46.1 (I 0)).bind fun v => some (v, p46.2) else some (U, p46.2)).bind fun p47 =>
  (sPick t30 p47.1 (B false)).bind fun t48 =>
  sCond t48
  ((fxInv call hs 2 t1 [t10] p47.2).bind fun p51 =>
  xb0 call hs u rec0 t0 t1 t3 t9 t10 p51.2 (fc + 41))
  (xb0 call hs u rec0 t0 t1 t3 t9 t10 p47.2 (fc + 38))
noncomputable def xkw (call : FCall) (hs : FHs) (u : Nat) (rec0 : AV → AV → AV → AV → AV → Mem → Nat → Option (AV × Mem)) (t0 t1 t3 t9 t10 : AV) (m : Mem) (fc : Nat) : Option (AV × Mem) :=
  (sLt t10 t9).bind fun t11 =>
  sCond t11
  (xd4 call hs u rec0 t0 t1 t3 t9 t10 m (fc + 1))
  ((some (AV.tup [], m)))
noncomputable def x7u (call : FCall) (hs : FHs) (u : Nat) : Nat → AV → AV → AV → AV → AV → Mem → Nat → Option (AV × Mem)
  | 0 => fun _ _ _ _ _ _ _ => none
  | n + 1 => fun t0 t1 t3 t9 t10 m fc => xkw call hs u (x7u call hs u n) t0 t1 t3 t9 t10 m fc
noncomputable def xkx (call : FCall) (hs : FHs) (u : Nat) (t0 t1 t2 t3 : AV) (m : Mem) (fc : Nat) : Option (AV × Mem) :=
  (sFA 0 t2).bind fun t7 =>
  (sFA 0 t7).bind fun t8 =>
  (sLd false 1 t8 m).bind fun t9 =>
  x7u call hs u NN t0 t1 t3 t9 (I 0) m (fc + 4)
noncomputable def x83 (call : FCall) (hs : FHs) (args : List AV) (m : Mem) : Option (AV × Mem) :=
  match args with
  | [t0, t1, t2, t3] => xkx call hs m.next t0 t1 t2 t3 ⟨m.hp, m.next + 1⟩ 0
  | _ => none

noncomputable def xd5 (call : FCall) (hs : FHs) (u : Nat) (t0 : AV) (m : Mem) (fc : Nat) : Option (AV × Mem) :=
  (sNe t0 (I 0)).bind fun t4 =>
  some (t4, m)
noncomputable def x7b (call : FCall) (hs : FHs) (args : List AV) (m : Mem) : Option (AV × Mem) :=
  match args with
  | [t0] => xd5 call hs m.next t0 ⟨m.hp, m.next + 1⟩ 0
  | _ => none

noncomputable def x17 (call : FCall) (hs : FHs) (u : Nat) (rec0 : AV → AV → AV → AV → AV → AV → Mem → Nat → Option (AV × Mem)) (t0 t1 t2 t4 t9 t10 : AV) (m : Mem) (fc : Nat) : Option (AV × Mem) :=
  (sAdd t10 (I 1)).bind fun t54 =>
  rec0 t0 t1 t2 t4 t9 t54 m (fc + 2)
noncomputable def xb1 (call : FCall) (hs : FHs) (u : Nat) (rec0 : AV → AV → AV → AV → AV → AV → Mem → Nat → Option (AV × Mem)) (rec1 : AV → AV → AV → AV → AV → AV → AV → AV → AV → AV → Mem → Nat → Option (AV × Mem)) (t0 t1 t2 t4 t5 t6 t9 t10 t16 t17 : AV) (m : Mem) (fc : Nat) : Option (AV × Mem) :=
  (sAdd t17 (I 1)).bind fun t53 =>
  rec1 t0 t1 t2 t4 t5 t6 t9 t10 t16 t53 m (fc + 2)
noncomputable def xd6 (call : FCall) (hs : FHs) (u : Nat) (rec0 : AV → AV → AV → AV → AV → AV → Mem → Nat → Option (AV × Mem)) (rec1 : AV → AV → AV → AV → AV → AV → AV → AV → AV → AV → Mem → Nat → Option (AV × Mem)) (t0 t1 t2 t4 t5 t6 t9 t10 t16 t17 : AV) (m : Mem) (fc : Nat) : Option (AV × Mem) :=
  (sEq t5 (I 0)).bind fun t21 =>
  (bif sW t21 true then some (t17, m) else some (U, m)).bind fun p23 =>
  (bif sW t21 true then (sLd false 1 t1 p23.2).bind fun v => some (v, p23.2) else some (U, p23.2)).bind fun p24 =>
  (bif sW t21 true then (sRem p23.1 p24.1).bind fun v => some (v, p24.2) else some (U, p24.2)).bind fun p25 =>
  (bif sW t21 true then (sLd false 1 t1 p25.2).bind fun v => some (v, p25.2) else some (U, p25.2)).bind fun p26 =>
  (bif sW t21 true then (sSub p26.1 (I 1)).bind fun v => some (v, p26.2) else some (U, p26.2)).bind fun p27 =>
  (bif sW t21 true then (sEq p25.1 p27.1).bind fun v => some (v, p27.2) else some (U, p27.2)).bind fun p28 =>
  (sPick t21 p28.1 (B false)).bind fun t29 =>
  (bif sW t29 false then some (t5, p28.2) else some (U, p28.2)).bind fun p31 =>
  (bif sW t29 false then (sEq p31.1 (I 1)).bind fun v => some (v, p31.2) else some (U, p31.2)).bind fun p32 =>
  (bif sW t29 false then some (p32.1, p32.2) else some (U, p32.2)).bind fun p33 =>
  (bif sW p33.1 true then some (t17, p33.2) else some (U, p33.2)).bind fun p34 =>
  (bif sW p33.1 true then (sLd false 1 t1 p34.2).bind fun v => some (v, p34.2) else some (U, p34.2)).bind fun p35 =>
  (bif sW p33.1 true then (sQuo p34.1 p35.1).bind fun v => some (v, p35.2) else some (U, p35.2)).bind fun p36 =>
  (bif sW p33.1 true then (sLd false 1 t2 p36.2).bind fun v => some (v, p36.2) else some (U, p36.2)).bind fun p37 =>
  (bif sW p33.1 true then (sSub p37.1 (I 1)).bind fun v => some (v, p37.2) else some (U, p37.2)).bind fun p38 =>
  (bif sW p33.1 true then (sEq p36.1 p38.1).bind fun v => some (v, p38.2) else some (U, p38.2)).bind fun p39 =>
  (bif sW t29 false then (sPick p33.1 p39.1 (B false)).bind fun v => some (v, p39.2) else some (U, p39.2)).bind fun p40 =>
  (sPick t29 (B true) p40.1).bind fun t41 =>
  sCond t41
  (xb1 call hs u rec0 rec1 t0 t1 t2 t4 t5 t6 t9 t10 t16 t17 p40.2 (fc + 24))
  ((sAdd t17 t6).bind fun t47 =>
  (sBuild x8z [(0, 1, t17), (1, 1, t47)]).bind fun t48 =>
  (fxInv call hs 2 t0 [t4, t48] p40.2).bind fun p49 =>
  (sNot p49.1).bind fun t50 =>
  sCond t50
  (some (AV.tup [], p49.2))
  ((sAdd t4 (I 1)).bind fun t52 =>
  xb1 call hs u rec0 rec1 t0 t1 t2 t52 t5 t6 t9 t10 t16 t17 p49.2 (fc + 36)))
noncomputable def xky (call : FCall) (hs : FHs) (u : Nat) (rec0 : AV → AV → AV → AV → AV → AV → Mem → Nat → Option (AV × Mem)) (rec1 : AV → AV → AV → AV → AV → AV → AV → AV → AV → AV → Mem → Nat → Option (AV × Mem)) (t0 t1 t2 t4 t5 t6 t9 t10 t16 t17 : AV) (m : Mem) (fc : Nat) : Option (AV × Mem) :=
  (sLt t17 t16).bind fun t18 =>
  sCond t18
  (xd6 call hs u rec0 rec1 t0 t1 t2 t4 t5 t6 t9 t10 t16 t17 m (fc + 1))
  (x17 call hs u rec0 t0 t1 t2 t4 t9 t10 m (fc + 1))
noncomputable def x7v (call : FCall) (hs : FHs) (u : Nat) (rec0 : AV → AV → AV → AV → AV → AV → Mem → Nat → Option (AV × Mem)) : Nat → AV → AV → AV → AV → AV → AV → AV → AV → AV → AV → Mem → Nat → Option (AV × Mem)
  | 0 => fun _ _ _ _ _ _ _ _ _ _ _ _ => none
  | n + 1 => fun t0 t1 t2 t4 t5 t6 t9 t10 t16 t17 m fc => xky call hs u rec0 (x7v call hs u rec0 n) t0 t1 t2 t4 t5 t6 t9 t10 t16 t17 m fc
noncomputable def xb2 (call : FCall) (hs : FHs) (u : Nat) (rec0 : AV → AV → AV → AV → AV → AV → Mem → Nat → Option (AV × Mem)) (t0 t1 t2 t4 t9 t10 : AV) (m : Mem) (fc : Nat) : Option (AV × Mem) :=
  (sIdx Try.prog xkz t9 t10).bind fun t13 =>
  (sLd false 1 t2 m).bind fun t14 =>
  (sLd false 1 t1 m).bind fun t15 =>
  (sMul t14 t15).bind fun t16 =>
  x7v call hs u rec0 NN t0 t1 t2 t4 t10 t13 t9 t10 t16 (I 0) m (fc + 8)
noncomputable def xl0 (call : FCall) (hs : FHs) (u : Nat) (rec0 : AV → AV → AV → AV → AV → AV → Mem → Nat → Option (AV × Mem)) (t0 t1 t2 t4 t9 t10 : AV) (m : Mem) (fc : Nat) : Option (AV × Mem) :=
  (sLt t10 (I 2)).bind fun t11 =>
  sCond t11
  (xb2 call hs u rec0 t0 t1 t2 t4 t9 t10 m (fc + 1))
  ((some (AV.tup [], m)))
noncomputable def x7w (call : FCall) (hs : FHs) (u : Nat) : Nat → AV → AV → AV → AV → AV → AV → Mem → Nat → Option (AV × Mem)
  | 0 => fun _ _ _ _ _ _ _ _ => none
  | n + 1 => fun t0 t1 t2 t4 t9 t10 m fc => xl0 call hs u (x7w call hs u n) t0 t1 t2 t4 t9 t10 m fc
noncomputable def xl1 (call : FCall) (hs : FHs) (u : Nat) (t0 t1 t2 : AV) (m : Mem) (fc : Nat) : Option (AV × Mem) :=
  (sLd false 1 t1 m).bind fun t8 =>
  (sBuild x8z [(0, 1, (I 1)), (1, 1, t8)]).bind fun t9 =>
  x7w call hs u NN t0 t1 t2 (I 0) t9 (I 0) m (fc + 4)
noncomputable def x8q (call : FCall) (hs : FHs) (args : List AV) (m : Mem) : Option (AV × Mem) :=
  match args with
  | [t0, t1, t2] => xl1 call hs m.next t0 t1 t2 ⟨m.hp, m.next + 1⟩ 0
  | _ => none

noncomputable def x4v (call : FCall) (hs : FHs) (u : Nat) (t7 : AV) (m : Mem) (fc : Nat) : Option (AV × Mem) :=
  some (t7, m)
noncomputable def xb3 (call : FCall) (hs : FHs) (u : Nat) (rec0 : AV → AV → Mem → Nat → Option (AV × Mem)) (t7 t8 : AV) (m : Mem) (fc : Nat) : Option (AV × Mem) :=
  (sLen Try.prog x6 t7).bind fun t36 =>
  (sLt t8 t36).bind fun t37 =>
  sCond t37
  ((sSlice Try.prog x6 t7 (some t8) none).bind fun t41 =>
  (sSlice Try.prog x6 t7 none (some t8)).bind fun t44 =>
  sCpy 1 t41 t44 m fun t45 m_1 =>
  (sAdd t8 t45).bind fun t46 =>
  rec0 t7 t46 m_1 (fc + 14))
  (x4v call hs u t7 m (fc + 4))
noncomputable def x36 (call : FCall) (hs : FHs) (u : Nat) : Nat → AV → AV → Mem → Nat → Option (AV × Mem)
  | 0 => fun _ _ _ _ => none
  | n + 1 => fun t7 t8 m fc => xb3 call hs u (x36 call hs u n) t7 t8 m fc
noncomputable def xb4 (call : FCall) (hs : FHs) (u : Nat) (t0 t6 : AV) (m : Mem) (fc : Nat) : Option (AV × Mem) :=
  (sCvt Try.prog x1v y_int t6).bind fun t29 =>
  sMkSl z_int 1 8 t29 t29 (u, fc + 2, 30) m fun t30 m_2 =>
  sCpy 1 t30 t0 m_2 fun t33 m_3 =>
  x36 call hs u NN t30 t33 m_3 (fc + 8)
noncomputable def xb5 (call : FCall) (hs : FHs) (u : Nat) (t0 t5 t6 : AV) (m : Mem) (fc : Nat) : Option (AV × Mem) :=
  (sBin Try.prog .gtr x1v (.tmp 21) (.const (.int .u64 0)) t5 (AV.sc (.int .u64 0))).bind fun t22 =>
  (bif sW t22 false then some (t6, m) else some (U, m)).bind fun p24 =>
  (bif sW t22 false then (sBin Try.prog .gtr x1v (.tmp 24) (.const (.int .u64 9223372036854775807)) p24.1 (AV.sc (.int .u64 9223372036854775807))).bind fun v => some (v, p24.2) else some (U, p24.2)).bind fun p25 =>
  (sPick t22 (B true) p25.1).bind fun t26 =>
  sCond t26
  (none)
  (xb4 call hs u t0 t6 p25.2 (fc + 6))
noncomputable def xb6 (call : FCall) (hs : FHs) (u : Nat) (t0 t1 : AV) (m : Mem) (fc : Nat) : Option (AV × Mem) :=
  (sLen Try.prog x6 t0).bind fun t14 =>
  (sCvt Try.prog y_int x1v t14).bind fun t15 =>
  (sCvt Try.prog y_int x1v t1).bind fun t17 =>
  (sCall0 call x43 [t15, t17] m).bind fun p18 =>
  (sExt p18.1 0).bind fun t19 =>
  (sExt p18.1 1).bind fun t20 =>
  xb5 call hs u t0 t19 t20 p18.2 (fc + 11)
noncomputable def xb7 (call : FCall) (hs : FHs) (u : Nat) (t0 t1 : AV) (m : Mem) (fc : Nat) : Option (AV × Mem) :=
  (sLt t1 (I 0)).bind fun t10 =>
  sCond t10
  (none)
  (xb6 call hs u t0 t1 m (fc + 2))
noncomputable def xd7 (call : FCall) (hs : FHs) (u : Nat) (t0 t1 : AV) (m : Mem) (fc : Nat) : Option (AV × Mem) :=
  xb7 call hs u t0 t1 m (fc + 1)
noncomputable def x7c (call : FCall) (hs : FHs) (args : List AV) (m : Mem) : Option (AV × Mem) :=
  match args with
  | [t0, t1] => xd7 call hs m.next t0 t1 ⟨m.hp, m.next + 1⟩ 0
  | _ => none

noncomputable def x9f (call : FCall) (hs : FHs) (u : Nat) (t0 t1 t2 t3 : AV) (m : Mem) (fc : Nat) : Option (AV × Mem) :=
  (sLd false 1 t1 m).bind fun t5 =>
  (sIx 1 t5 t0).bind fun t7 =>
  (sLd false 1 t7 m).bind fun t8 =>
  (sLt t8 (I 0)).bind fun t9 =>
  sCond t9
  ((sLd false 1 t1 m).bind fun t10 =>
  (sLd false 1 t2 m).bind fun t12 =>
  (sIx 1 t10 t0).bind fun t13 =>
  sSt 1 t13 t12 m fun m_1 =>
  (sLd false 1 t3 m_1).bind fun t14 =>
  sMkLit z_int [(0, 1, t0)] 1 1 (u, fc + 12, 16) m_1 fun t16 m_2 =>
  sApp 1 8 (u, fc + 13, 17) (elems m_2.get 1 t16) t14 m_2 fun t17 m_3 =>
  sSt 1 t3 t17 m_3 fun m_4 =>
  (some (AV.tup [], m_4)))
  ((some (AV.tup [], m)))
noncomputable def x80 (call : FCall) (hs : FHs) (args : List AV) (m : Mem) : Option (AV × Mem) :=
  match args with
  | [t0, t1, t2, t3] => x9f call hs m.next t0 t1 t2 t3 ⟨m.hp, m.next + 1⟩ 0
  | _ => none

noncomputable def xd8 (call : FCall) (hs : FHs) (u : Nat) (t0 t1 : AV) (m : Mem) (fc : Nat) : Option (AV × Mem) :=
  sBox t0 (u, fc, 2) m fun t2 m_1 =>
  sBox t1 (u, fc + 1, 3) m_1 fun t3 m_2 =>
  some ((AV.clo xk [t2, t3]), m_2)
noncomputable def x6h (call : FCall) (hs : FHs) (args : List AV) (m : Mem) : Option (AV × Mem) :=
  match args with
  | [t0, t1] => xd8 call hs m.next t0 t1 ⟨m.hp, m.next + 1⟩ 0
  | _ => none

noncomputable def xl2 (call : FCall) (hs : FHs) (u : Nat) (t0 t1 : AV) (m : Mem) (fc : Nat) : Option (AV × Mem) :=
  sCond (B false)
  ((sCvt Try.prog x1v x5f t0).bind fun t12 =>
  (sCvt Try.prog x1v x5f t1).bind fun t14 =>
  (sCall0 call x68 [t12, t14] m).bind fun p15 =>
  (sExt p15.1 0).bind fun t16 =>
  (sExt p15.1 1).bind fun t17 =>
  (sCvt Try.prog x5f x1v t16).bind fun t19 =>
  (sCvt Try.prog x5f x1v t17).bind fun t21 =>
  some (AV.tup [t19, t21], p15.2))
  ((sCall0 call x5s [t0, t1] m).bind fun p25 =>
  (sExt p25.1 0).bind fun t26 =>
  (sExt p25.1 1).bind fun t27 =>
  some (AV.tup [t26, t27], p25.2))
noncomputable def x8r (call : FCall) (hs : FHs) (args : List AV) (m : Mem) : Option (AV × Mem) :=
  match args with
  | [t0, t1] => xl2 call hs m.next t0 t1 ⟨m.hp, m.next + 1⟩ 0
  | _ => none

noncomputable def x2o (call : FCall) (hs : FHs) (u : Nat) (rec0 : AV → AV → AV → AV → AV → AV → Mem → Nat → Option (AV × Mem)) (t0 t1 t2 t14 t15 t16 : AV) (m : Mem) (fc : Nat) : Option (AV × Mem) :=
  (sAdd t16 (I 1)).bind fun t75 =>
  rec0 t0 t1 t2 t14 t15 t75 m (fc + 2)
noncomputable def x7x (call : FCall) (hs : FHs) (u : Nat) (rec0 : AV → AV → AV → AV → AV → AV → Mem → Nat → Option (AV × Mem)) (t0 t1 t2 t7 t14 t15 t16 : AV) (m : Mem) (fc : Nat) : Option (AV × Mem) :=
  (sFA 3 t7).bind fun t66 =>
  (sLd false 1 t66 m).bind fun t67 =>
  (sGt t67 (I 0)).bind fun t68 =>
  (bif sW t68 true then some (t0, m) else some (U, m)).bind fun p70 =>
  (bif sW t68 true then (sLd true 5 t7 p70.2).bind fun v => some (v, p70.2) else some (U, p70.2)).bind fun p71 =>
  (bif sW t68 true then (fxInv call hs 2 p70.1 [p71.1] p71.2).bind fun p => some (p.1, p.2) else some (U, p71.2)).bind fun p72 =>
  (bif sW t68 true then (sNot p72.1).bind fun v => some (v, p72.2) else some (U, p72.2)).bind fun p73 =>
  (sPick t68 p73.1 (B false)).bind fun t74 =>
  sCond t74
  (some (AV.tup [], p73.2))
  (x2o call hs u rec0 t0 t1 t2 t14 t15 t16 p73.2 (fc + 9))
noncomputable def x7y (call : FCall) (hs : FHs) (u : Nat) (rec0 : AV → AV → AV → AV → AV → AV → Mem → Nat → Option (AV × Mem)) (t0 t1 t2 t5 t6 t7 t14 t15 t16 : AV) (m : Mem) (fc : Nat) : Option (AV × Mem) :=
  (sFA 1 t6).bind fun t46 =>
  (sLd false 1 t46 m).bind fun t47 =>
  (sLd false 1 t2 m).bind fun t48 =>
  (sEq t47 t48).bind fun t49 =>
  sCond t49
  ((sFA 0 t6).bind fun t51 =>
  (sLd false 1 t51 m).bind fun t52 =>
  (sFA 3 t6).bind fun t53 =>
  (sLd false 1 t53 m).bind fun t54 =>
  (sLd false 1 t1 m).bind fun t55 =>
  (sNil t55).bind fun t56 =>
  (sFA 2 t56).bind fun t57 =>
  (sLd false 1 t57 m).bind fun t58 =>
  (sIx 1 t58 t5).bind fun t60 =>
  (sLd false 1 t60 m).bind fun t61 =>
  (sAdd t54 t61).bind fun t62 =>
  (sFA 2 t6).bind fun t63 =>
  (sLd false 1 t63 m).bind fun t64 =>
  (sBuild x7t [(0, 1, t5), (1, 1, t52), (2, 1, (I (-1))), (3, 1, t62), (4, 1, t64)]).bind fun t65 =>
  sSt 5 t7 t65 m fun m_1 =>
  x7x call hs u rec0 t0 t1 t2 t7 t14 t15 t16 m_1 (fc + 21))
  (x7x call hs u rec0 t0 t1 t2 t7 t14 t15 t16 m (fc + 4))
noncomputable def x9g (call : FCall) (hs : FHs) (u : Nat) (rec0 : AV → AV → AV → AV → AV → AV → Mem → Nat → Option (AV × Mem)) (t0 t1 t2 t14 t15 t16 : AV) (m : Mem) (fc : Nat) : Option (AV × Mem) :=
  (sIx 1 t14 t16).bind fun t18 =>
  (sLd false 1 t18 m).bind fun t19 =>
  (sLd false 1 t1 m).bind fun t20 =>
  (sNil t20).bind fun t21 =>
  (sFA 0 t21).bind fun t22 =>
  (sFA 0 t22).bind fun t23 =>
  (sFA 1 t23).bind fun t24 =>
  (sLd false 1 t24 m).bind fun t25 =>
  (sIx 4 t25 t19).bind fun t27 =>
  (sLd true 4 t27 m).bind fun t28 =>
  sAlloc x1o (u, fc + 12, 6) m fun t6 m_2 =>
  sSt 4 t6 t28 m_2 fun m_3 =>
  (sFA 1 t6).bind fun t30 =>
  (sLd false 1 t30 m_3).bind fun t31 =>
  (sFA 3 t6).bind fun t32 =>
  (sLd false 1 t32 m_3).bind fun t33 =>
  (sLd false 1 t1 m_3).bind fun t34 =>
  (sNil t34).bind fun t35 =>
  (sFA 2 t35).bind fun t36 =>
  (sLd false 1 t36 m_3).bind fun t37 =>
  (sIx 1 t37 t19).bind fun t39 =>
  (sLd false 1 t39 m_3).bind fun t40 =>
  (sSub t33 t40).bind fun t41 =>
  (sFA 2 t6).bind fun t42 =>
  (sLd false 1 t42 m_3).bind fun t43 =>
  (sNeg t43).bind fun t44 =>
  (sBuild x7t [(0, 1, t19), (1, 1, t31), (2, 1, (I 1)), (3, 1, t41), (4, 1, t44)]).bind fun t45 =>
  sAlloc x7t (u, fc + 31, 7) m_3 fun t7 m_4 =>
  sSt 5 t7 t45 m_4 fun m_5 =>
  bif (apartIds (tR t30) (some [], some [(u, fc + 31, 7)]) && (apartIds (tR t32) (some [], some [(u, fc + 31, 7)]) && (apartIds (tR t1) (some [], some [(u, fc + 31, 7)]) && (apartIds (tR t36) (some [], some [(u, fc + 31, 7)]) && (apartIds (tR t39) (some [], some [(u, fc + 31, 7)]) && (apartIds (tR t42) (some [], some [(u, fc + 31, 7)]) && true)))))) then
  x7y call hs u rec0 t0 t1 t2 t19 t6 t7 t14 t15 t16 m_5 (fc + 33) else none
noncomputable def xb8 (call : FCall) (hs : FHs) (u : Nat) (rec0 : AV → AV → AV → AV → AV → AV → Mem → Nat → Option (AV × Mem)) (t0 t1 t2 t14 t15 t16 : AV) (m : Mem) (fc : Nat) : Option (AV × Mem) :=
  (sLt t16 t15).bind fun t17 =>
  sCond t17
  (x9g call hs u rec0 t0 t1 t2 t14 t15 t16 m (fc + 1))
  ((some (AV.tup [], m)))
noncomputable def x2p (call : FCall) (hs : FHs) (u : Nat) : Nat → AV → AV → AV → AV → AV → AV → Mem → Nat → Option (AV × Mem)
  | 0 => fun _ _ _ _ _ _ _ _ => none
  | n + 1 => fun t0 t1 t2 t14 t15 t16 m fc => xb8 call hs u (x2p call hs u n) t0 t1 t2 t14 t15 t16 m fc
noncomputable def xd9 (call : FCall) (hs : FHs) (u : Nat) (t0 t1 t2 : AV) (m : Mem) (fc : Nat) : Option (AV × Mem) :=
  (sLd false 1 t1 m).bind fun t8 =>
  (sNil t8).bind fun t9 =>
  (sFA 5 t9).bind fun t10 =>
  (sLd false 1 t10 m).bind fun t11 =>
  (sLd false 1 t2 m).bind fun t12 =>
  (sIx 1 t11 t12).bind fun t13 =>
  (sLd false 1 t13 m).bind fun t14 =>
  (sLen Try.prog x6 t14).bind fun t15 =>
  x2p call hs u NN t0 t1 t2 t14 t15 (I 0) m (fc + 9)
noncomputable def x6e (call : FCall) (hs : FHs) (args : List AV) (m : Mem) : Option (AV × Mem) :=
  match args with
  | [t0, t1, t2] => xd9 call hs m.next t0 t1 t2 ⟨m.hp, m.next + 1⟩ 0
  | _ => none

noncomputable def xl3 (call : FCall) (hs : FHs) (u : Nat) (t0 t1 : AV) (m : Mem) (fc : Nat) : Option (AV × Mem) :=
  (sCvt Try.prog x5f xw t0).bind fun t8 =>
  (sCvt Try.prog x5f xw t1).bind fun t10 =>
  (sBin Try.prog .mul xw (.tmp 8) (.tmp 10) t8 t10).bind fun t11 =>
  (sBin Try.prog .shr xw (.tmp 12) (.const (.int .u64 32)) t11 (AV.sc (.int .u64 32))).bind fun t13 =>
  (sCvt Try.prog xw x5f t13).bind fun t14 =>
  (sCvt Try.prog xw x5f t11).bind fun t16 =>
  some (AV.tup [t14, t16], m)
noncomputable def x8s (call : FCall) (hs : FHs) (args : List AV) (m : Mem) : Option (AV × Mem) :=
  match args with
  | [t0, t1] => xl3 call hs m.next t0 t1 ⟨m.hp, m.next + 1⟩ 0
  | _ => none

noncomputable def xl4 (call : FCall) (hs : FHs) (u : Nat) (t0 t1 : AV) (m : Mem) (fc : Nat) : Option (AV × Mem) :=
  (sBin Try.prog .and xw (.tmp 14) (.const (.int .u64 4294967295)) t0 (AV.sc (.int .u64 4294967295))).bind fun t15 =>
  (sBin Try.prog .shr xw (.tmp 16) (.const (.int .u64 32)) t0 (AV.sc (.int .u64 32))).bind fun t17 =>
  (sBin Try.prog .and xw (.tmp 18) (.const (.int .u64 4294967295)) t1 (AV.sc (.int .u64 4294967295))).bind fun t19 =>
  (sBin Try.prog .shr xw (.tmp 20) (.const (.int .u64 32)) t1 (AV.sc (.int .u64 32))).bind fun t21 =>
  (sBin Try.prog .mul xw (.tmp 22) (.tmp 23) t15 t19).bind fun t24 =>
  (sBin Try.prog .mul xw (.tmp 25) (.tmp 26) t17 t19).bind fun t27 =>
  (sBin Try.prog .shr xw (.tmp 28) (.const (.int .u64 32)) t24 (AV.sc (.int .u64 32))).bind fun t29 =>
  (sBin Try.prog .add xw (.tmp 27) (.tmp 29) t27 t29).bind fun t30 =>
  (sBin Try.prog .and xw (.tmp 31) (.const (.int .u64 4294967295)) t30 (AV.sc (.int .u64 4294967295))).bind fun t32 =>
  (sBin Try.prog .shr xw (.tmp 33) (.const (.int .u64 32)) t30 (AV.sc (.int .u64 32))).bind fun t34 =>
  (sBin Try.prog .mul xw (.tmp 36) (.tmp 37) t15 t21).bind fun t38 =>
  (sBin Try.prog .add xw (.tmp 35) (.tmp 38) t32 t38).bind fun t39 =>
  (sBin Try.prog .mul xw (.tmp 40) (.tmp 41) t17 t21).bind fun t42 =>
  (sBin Try.prog .add xw (.tmp 42) (.tmp 43) t42 t34).bind fun t44 =>
  (sBin Try.prog .shr xw (.tmp 45) (.const (.int .u64 32)) t39 (AV.sc (.int .u64 32))).bind fun t46 =>
  (sBin Try.prog .add xw (.tmp 44) (.tmp 46) t44 t46).bind fun t47 =>
  (sBin Try.prog .mul xw (.tmp 48) (.tmp 49) t0 t1).bind fun t50 =>
  some (AV.tup [t47, t50], m)
noncomputable def x82 (call : FCall) (hs : FHs) (args : List AV) (m : Mem) : Option (AV × Mem) :=
  match args with
  | [t0, t1] => xl4 call hs m.next t0 t1 ⟨m.hp, m.next + 1⟩ 0
  | _ => none

end Go.Ix
