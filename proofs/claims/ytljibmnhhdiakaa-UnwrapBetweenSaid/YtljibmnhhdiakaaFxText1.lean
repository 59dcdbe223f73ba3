import Derived.Test.YtljibmnhhdiakaaFxConst
set_option linter.unusedVariables false
namespace Go.Ix
open Go.Proofs
noncomputable def xj (call:x1lo) (hs:FHs) (u:Nat) (rec0:AV→AV→AV→AV→AV→AV→Mem→Nat→O2) (t0 t1 t2 t4 t9 t10:AV) (m:Mem) (fc:Nat):O2:=
 (sAdd t10 (I 1)).bind fun t54=>
  rec0 t0 t1 t2 t4 t9 t54 m (fc+2)
noncomputable def xc9 (call:x1lo) (hs:FHs) (u:Nat) (rec0:AV→AV→AV→AV→AV→AV→Mem→Nat→O2) (rec1:AV→AV→AV→AV→AV→AV→AV→AV→AV→AV→Mem→Nat→O2) (t0 t1 t2 t4 t5 t6 t9 t10 t16 t17:AV) (m:Mem) (fc:Nat):O2:=
 (sAdd t17 (I 1)).bind fun t53=>
  rec1 t0 t1 t2 t4 t5 t6 t9 t10 t16 t53 m (fc+2)
noncomputable def xgy (call:x1lo) (hs:FHs) (u:Nat) (rec0:AV→AV→AV→AV→AV→AV→Mem→Nat→O2) (rec1:AV→AV→AV→AV→AV→AV→AV→AV→AV→AV→Mem→Nat→O2) (t0 t1 t2 t4 t5 t6 t9 t10 t16 t17:AV) (m:Mem) (fc:Nat):O2:=
 (sEq t5 (I 0)).bind fun t21=>
  (bif sW t21 true then some (t17,m) else some (U,m)).bind fun p23=>
  (bif sW t21 true then (sLd false 1 t1 p23.2).bind fun v=>some (v,p23.2) else some (U,p23.2)).bind fun p24=>
  (bif sW t21 true then (sRem p23.1 p24.1).bind fun v=>some (v,p24.2) else some (U,p24.2)).bind fun p25=>
  (bif sW t21 true then (sLd false 1 t1 p25.2).bind fun v=>some (v,p25.2) else some (U,p25.2)).bind fun p26=>
  (bif sW t21 true then (sSub p26.1 (I 1)).bind fun v=>some (v,p26.2) else some (U,p26.2)).bind fun p27=>
  (bif sW t21 true then (sEq p25.1 p27.1).bind fun v=>some (v,p27.2) else some (U,p27.2)).bind fun p28=>
  (x1lx t21 p28.1 (B false)).bind fun t29=>
  (bif sW t29 false then some (t5,p28.2) else some (U,p28.2)).bind fun p31=>
  (bif sW t29 false then (sEq p31.1 (I 1)).bind fun v=>some (v,p31.2) else some (U,p31.2)).bind fun p32=>
  (bif sW t29 false then some (p32.1,p32.2) else some (U,p32.2)).bind fun p33=>
  (bif sW p33.1 true then some (t17,p33.2) else some (U,p33.2)).bind fun p34=>
  (bif sW p33.1 true then (sLd false 1 t1 p34.2).bind fun v=>some (v,p34.2) else some (U,p34.2)).bind fun p35=>
  (bif sW p33.1 true then (sQuo p34.1 p35.1).bind fun v=>some (v,p35.2) else some (U,p35.2)).bind fun p36=>
  (bif sW p33.1 true then (sLd false 1 t2 p36.2).bind fun v=>some (v,p36.2) else some (U,p36.2)).bind fun p37=>
  (bif sW p33.1 true then (sSub p37.1 (I 1)).bind fun v=>some (v,p37.2) else some (U,p37.2)).bind fun p38=>
  (bif sW p33.1 true then (sEq p36.1 p38.1).bind fun v=>some (v,p38.2) else some (U,p38.2)).bind fun p39=>
  (bif sW t29 false then (x1lx p33.1 p39.1 (B false)).bind fun v=>some (v,p39.2) else some (U,p39.2)).bind fun p40=>
  (x1lx t29 (B true) p40.1).bind fun t41=>
  x1lr t41
  (xc9 call hs u rec0 rec1 t0 t1 t2 t4 t5 t6 t9 t10 t16 t17 p40.2 (fc+24))
  ((sAdd t17 t6).bind fun t47=>
  (x1m4 x8y [(0,1,t17),(1,1,t47)]).bind fun t48=>
  (x1nk call hs 2 t0 [t4,t48] p40.2).bind fun p49=>
  (sNot p49.1).bind fun t50=>
  x1lr t50
  (some (AV.tup [],p49.2))
  ((sAdd t4 (I 1)).bind fun t52=>
  xc9 call hs u rec0 rec1 t0 t1 t2 t52 t5 t6 t9 t10 t16 t17 p49.2 (fc+36)))
noncomputable def xm3 (call:x1lo) (hs:FHs) (u:Nat) (rec0:AV→AV→AV→AV→AV→AV→Mem→Nat→O2) (rec1:AV→AV→AV→AV→AV→AV→AV→AV→AV→AV→Mem→Nat→O2) (t0 t1 t2 t4 t5 t6 t9 t10 t16 t17:AV) (m:Mem) (fc:Nat):O2:=
 (sLt t17 t16).bind fun t18=>
  x1lr t18
  (xgy call hs u rec0 rec1 t0 t1 t2 t4 t5 t6 t9 t10 t16 t17 m (fc+1))
  (xj call hs u rec0 t0 t1 t2 t4 t9 t10 m (fc+1))
noncomputable def x6u (call:x1lo) (hs:FHs) (u:Nat) (rec0:AV→AV→AV→AV→AV→AV→Mem→Nat→O2):Nat→AV→AV→AV→AV→AV→AV→AV→AV→AV→AV→Mem→Nat→O2
 | 0=>fun _ _ _ _ _ _ _ _ _ _ _ _=>none
 | n+1=>fun t0 t1 t2 t4 t5 t6 t9 t10 t16 t17 m fc=>xm3 call hs u rec0 (x6u call hs u rec0 n) t0 t1 t2 t4 t5 t6 t9 t10 t16 t17 m fc
noncomputable def xca (call:x1lo) (hs:FHs) (u:Nat) (rec0:AV→AV→AV→AV→AV→AV→Mem→Nat→O2) (t0 t1 t2 t4 t9 t10:AV) (m:Mem) (fc:Nat):O2:=
 (sIdx Try.prog xm4 t9 t10).bind fun t13=>
  (sLd false 1 t2 m).bind fun t14=>
  (sLd false 1 t1 m).bind fun t15=>
  (sMul t14 t15).bind fun t16=>
  x6u call hs u rec0 NN t0 t1 t2 t4 t10 t13 t9 t10 t16 (I 0) m (fc+8)
noncomputable def xm5 (call:x1lo) (hs:FHs) (u:Nat) (rec0:AV→AV→AV→AV→AV→AV→Mem→Nat→O2) (t0 t1 t2 t4 t9 t10:AV) (m:Mem) (fc:Nat):O2:=
 (sLt t10 (I 2)).bind fun t11=>
  x1lr t11
  (xca call hs u rec0 t0 t1 t2 t4 t9 t10 m (fc+1))
  ((some (AV.tup [],m)))
noncomputable def x6v (call:x1lo) (hs:FHs) (u:Nat):Nat→AV→AV→AV→AV→AV→AV→Mem→Nat→O2
 | 0=>fun _ _ _ _ _ _ _ _=>none
 | n+1=>fun t0 t1 t2 t4 t9 t10 m fc=>xm5 call hs u (x6v call hs u n) t0 t1 t2 t4 t9 t10 m fc
noncomputable def xm6 (call:x1lo) (hs:FHs) (u:Nat) (t0 t1 t2:AV) (m:Mem) (fc:Nat):O2:=
 (sLd false 1 t1 m).bind fun t8=>
  (x1m4 x8y [(0,1,(I 1)),(1,1,t8)]).bind fun t9=>
  x6v call hs u NN t0 t1 t2 (I 0) t9 (I 0) m (fc+4)
noncomputable def x4m (call:x1lo) (hs:FHs) (u:Nat) (t7:AV) (m:Mem) (fc:Nat):O2:=
 some (t7,m)
noncomputable def xcb (call:x1lo) (hs:FHs) (u:Nat) (rec0:AV→AV→Mem→Nat→O2) (t7 t8:AV) (m:Mem) (fc:Nat):O2:=
 (sLen Try.prog x4 t7).bind fun t36=>
  (sLt t8 t36).bind fun t37=>
  x1lr t37
  ((x1o8 Try.prog x4 t7 (some t8) none).bind fun t41=>
  (x1o8 Try.prog x4 t7 none (some t8)).bind fun t44=>
  sCpy 1 t41 t44 m fun t45 m_1=>
  (sAdd t8 t45).bind fun t46=>
  rec0 t7 t46 m_1 (fc+14))
  (x4m call hs u t7 m (fc+4))
noncomputable def x22 (call:x1lo) (hs:FHs) (u:Nat):Nat→AV→AV→Mem→Nat→O2
 | 0=>fun _ _ _ _=>none
 | n+1=>fun t7 t8 m fc=>xcb call hs u (x22 call hs u n) t7 t8 m fc
noncomputable def xcc (call:x1lo) (hs:FHs) (u:Nat) (t0 t6:AV) (m:Mem) (fc:Nat):O2:=
 (sCvt Try.prog xr x1n3 t6).bind fun t29=>
  x1mr x1mc 1 8 t29 t29 (u,fc+2,30) m fun t30 m_2=>
  sCpy 1 t30 t0 m_2 fun t33 m_3=>
  x22 call hs u NN t30 t33 m_3 (fc+8)
noncomputable def xcd (call:x1lo) (hs:FHs) (u:Nat) (t0 t5 t6:AV) (m:Mem) (fc:Nat):O2:=
 (sBin Try.prog .gtr xr (.tmp 21) (.const (.int .u64 0)) t5 (AV.sc (.int .u64 0))).bind fun t22=>
  (bif sW t22 false then some (t6,m) else some (U,m)).bind fun p24=>
  (bif sW t22 false then (sBin Try.prog .gtr xr (.tmp 24) (.const (.int .u64 9223372036854775807)) p24.1 (AV.sc (.int .u64 9223372036854775807))).bind fun v=>some (v,p24.2) else some (U,p24.2)).bind fun p25=>
  (x1lx t22 (B true) p25.1).bind fun t26=>
  x1lr t26
  (none)
  (xcc call hs u t0 t6 p25.2 (fc+6))
noncomputable def xce (call:x1lo) (hs:FHs) (u:Nat) (t0 t1:AV) (m:Mem) (fc:Nat):O2:=
 (sLen Try.prog x4 t0).bind fun t14=>
  (sCvt Try.prog x1n3 xr t14).bind fun t15=>
  (sCvt Try.prog x1n3 xr t1).bind fun t17=>
  (x1lq call x4v [t15,t17] m).bind fun p18=>
  (sExt p18.1 0).bind fun t19=>
  (sExt p18.1 1).bind fun t20=>
  xcd call hs u t0 t19 t20 p18.2 (fc+11)
noncomputable def xcf (call:x1lo) (hs:FHs) (u:Nat) (t0 t1:AV) (m:Mem) (fc:Nat):O2:=
 (sLt t1 (I 0)).bind fun t10=>
  x1lr t10
  (none)
  (xce call hs u t0 t1 m (fc+2))
noncomputable def xgz (call:x1lo) (hs:FHs) (u:Nat) (t0 t1:AV) (m:Mem) (fc:Nat):O2:=
 xcf call hs u t0 t1 m (fc+1)
noncomputable def x9i (call:x1lo) (hs:FHs) (u:Nat) (t0 t1 t2 t3:AV) (m:Mem) (fc:Nat):O2:=
 (sLd false 1 t1 m).bind fun t5=>
  (sIx 1 t5 t0).bind fun t7=>
  (sLd false 1 t7 m).bind fun t8=>
  (sLt t8 (I 0)).bind fun t9=>
  x1lr t9
  ((sLd false 1 t1 m).bind fun t10=>
  (sLd false 1 t2 m).bind fun t12=>
  (sIx 1 t10 t0).bind fun t13=>
  sSt 1 t13 t12 m fun m_1=>
  (sLd false 1 t3 m_1).bind fun t14=>
  x1ma x1mc [(0,1,t0)] 1 1 (u,fc+12,16) m_1 fun t16 m_2=>
  sApp 1 8 (u,fc+13,17) (elems m_2.get 1 t16) t14 m_2 fun t17 m_3=>
  sSt 1 t3 t17 m_3 fun m_4=>
  (some (AV.tup [],m_4)))
  ((some (AV.tup [],m)))
noncomputable def xh0 (call:x1lo) (hs:FHs) (u:Nat) (t0 t1:AV) (m:Mem) (fc:Nat):O2:=
 sBox t0 (u,fc,2) m fun t2 m_1=>
  sBox t1 (u,fc+1,3) m_1 fun t3 m_2=>
  some ((AV.clo x3n [t2,t3]),m_2)
noncomputable def xm7 (call:x1lo) (hs:FHs) (u:Nat) (t0 t1:AV) (m:Mem) (fc:Nat):O2:=
 x1lr (B false)
  ((sCvt Try.prog xr x4n t0).bind fun t12=>
  (sCvt Try.prog xr x4n t1).bind fun t14=>
  (x1lq call x8q [t12,t14] m).bind fun p15=>
  (sExt p15.1 0).bind fun t16=>
  (sExt p15.1 1).bind fun t17=>
  (sCvt Try.prog x4n xr t16).bind fun t19=>
  (sCvt Try.prog x4n xr t17).bind fun t21=>
  some (AV.tup [t19,t21],p15.2))
  ((x1lq call x78 [t0,t1] m).bind fun p25=>
  (sExt p25.1 0).bind fun t26=>
  (sExt p25.1 1).bind fun t27=>
  some (AV.tup [t26,t27],p25.2))
noncomputable def x1k (call:x1lo) (hs:FHs) (u:Nat) (rec0:AV→AV→AV→AV→AV→AV→Mem→Nat→O2) (t0 t1 t2 t14 t15 t16:AV) (m:Mem) (fc:Nat):O2:=
 (sAdd t16 (I 1)).bind fun t75=>
  rec0 t0 t1 t2 t14 t15 t75 m (fc+2)
noncomputable def x6w (call:x1lo) (hs:FHs) (u:Nat) (rec0:AV→AV→AV→AV→AV→AV→Mem→Nat→O2) (t0 t1 t2 t7 t14 t15 t16:AV) (m:Mem) (fc:Nat):O2:=
 (sFA 3 t7).bind fun t66=>
  (sLd false 1 t66 m).bind fun t67=>
  (sGt t67 (I 0)).bind fun t68=>
  (bif sW t68 true then some (t0,m) else some (U,m)).bind fun p70=>
  (bif sW t68 true then (sLd true 5 t7 p70.2).bind fun v=>some (v,p70.2) else some (U,p70.2)).bind fun p71=>
  (bif sW t68 true then (x1nk call hs 2 p70.1 [p71.1] p71.2).bind fun p=>some (p.1,p.2) else some (U,p71.2)).bind fun p72=>
  (bif sW t68 true then (sNot p72.1).bind fun v=>some (v,p72.2) else some (U,p72.2)).bind fun p73=>
  (x1lx t68 p73.1 (B false)).bind fun t74=>
  x1lr t74
  (some (AV.tup [],p73.2))
  (x1k call hs u rec0 t0 t1 t2 t14 t15 t16 p73.2 (fc+9))
noncomputable def x6x (call:x1lo) (hs:FHs) (u:Nat) (rec0:AV→AV→AV→AV→AV→AV→Mem→Nat→O2) (t0 t1 t2 t5 t6 t7 t14 t15 t16:AV) (m:Mem) (fc:Nat):O2:=
 (sFA 1 t6).bind fun t46=>
  (sLd false 1 t46 m).bind fun t47=>
  (sLd false 1 t2 m).bind fun t48=>
  (sEq t47 t48).bind fun t49=>
  x1lr t49
  ((sFA 0 t6).bind fun t51=>
  (sLd false 1 t51 m).bind fun t52=>
  (sFA 3 t6).bind fun t53=>
  (sLd false 1 t53 m).bind fun t54=>
  (sLd false 1 t1 m).bind fun t55=>
  (sNil t55).bind fun t56=>
  (sFA 2 t56).bind fun t57=>
  (sLd false 1 t57 m).bind fun t58=>
  (sIx 1 t58 t5).bind fun t60=>
  (sLd false 1 t60 m).bind fun t61=>
  (sAdd t54 t61).bind fun t62=>
  (sFA 2 t6).bind fun t63=>
  (sLd false 1 t63 m).bind fun t64=>
  (x1m4 x6s [(0,1,t5),(1,1,t52),(2,1,(I (-1))),(3,1,t62),(4,1,t64)]).bind fun t65=>
  sSt 5 t7 t65 m fun m_1=>
  x6w call hs u rec0 t0 t1 t2 t7 t14 t15 t16 m_1 (fc+21))
  (x6w call hs u rec0 t0 t1 t2 t7 t14 t15 t16 m (fc+4))
noncomputable def x9j (call:x1lo) (hs:FHs) (u:Nat) (rec0:AV→AV→AV→AV→AV→AV→Mem→Nat→O2) (t0 t1 t2 t14 t15 t16:AV) (m:Mem) (fc:Nat):O2:=
 (sIx 1 t14 t16).bind fun t18=>
  (sLd false 1 t18 m).bind fun t19=>
  (sLd false 1 t1 m).bind fun t20=>
  (sNil t20).bind fun t21=>
  (sFA 0 t21).bind fun t22=>
  (sFA 0 t22).bind fun t23=>
  (sFA 1 t23).bind fun t24=>
  (sLd false 1 t24 m).bind fun t25=>
  (sIx 4 t25 t19).bind fun t27=>
  (sLd true 4 t27 m).bind fun t28=>
  x1m5 xb (u,fc+12,6) m fun t6 m_2=>
  sSt 4 t6 t28 m_2 fun m_3=>
  (sFA 1 t6).bind fun t30=>
  (sLd false 1 t30 m_3).bind fun t31=>
  (sFA 3 t6).bind fun t32=>
  (sLd false 1 t32 m_3).bind fun t33=>
  (sLd false 1 t1 m_3).bind fun t34=>
  (sNil t34).bind fun t35=>
  (sFA 2 t35).bind fun t36=>
  (sLd false 1 t36 m_3).bind fun t37=>
  (sIx 1 t37 t19).bind fun t39=>
  (sLd false 1 t39 m_3).bind fun t40=>
  (sSub t33 t40).bind fun t41=>
  (sFA 2 t6).bind fun t42=>
  (sLd false 1 t42 m_3).bind fun t43=>
  (sNeg t43).bind fun t44=>
  (x1m4 x6s [(0,1,t19),(1,1,t31),(2,1,(I 1)),(3,1,t41),(4,1,t44)]).bind fun t45=>
  x1m5 x6s (u,fc+31,7) m_3 fun t7 m_4=>
  sSt 5 t7 t45 m_4 fun m_5=>
  bif (x1ls (tR t30) (some [],some [(u,fc+31,7)])&&(x1ls (tR t32) (some [],some [(u,fc+31,7)])&&(x1ls (tR t1) (some [],some [(u,fc+31,7)])&&(x1ls (tR t36) (some [],some [(u,fc+31,7)])&&(x1ls (tR t39) (some [],some [(u,fc+31,7)])&&(x1ls (tR t42) (some [],some [(u,fc+31,7)])&&true)))))) then
  x6x call hs u rec0 t0 t1 t2 t19 t6 t7 t14 t15 t16 m_5 (fc+33) else none
noncomputable def xcg (call:x1lo) (hs:FHs) (u:Nat) (rec0:AV→AV→AV→AV→AV→AV→Mem→Nat→O2) (t0 t1 t2 t14 t15 t16:AV) (m:Mem) (fc:Nat):O2:=
 (sLt t16 t15).bind fun t17=>
  x1lr t17
  (x9j call hs u rec0 t0 t1 t2 t14 t15 t16 m (fc+1))
  ((some (AV.tup [],m)))
noncomputable def x1l (call:x1lo) (hs:FHs) (u:Nat):Nat→AV→AV→AV→AV→AV→AV→Mem→Nat→O2
 | 0=>fun _ _ _ _ _ _ _ _=>none
 | n+1=>fun t0 t1 t2 t14 t15 t16 m fc=>xcg call hs u (x1l call hs u n) t0 t1 t2 t14 t15 t16 m fc
noncomputable def xh1 (call:x1lo) (hs:FHs) (u:Nat) (t0 t1 t2:AV) (m:Mem) (fc:Nat):O2:=
 (sLd false 1 t1 m).bind fun t8=>
  (sNil t8).bind fun t9=>
  (sFA 5 t9).bind fun t10=>
  (sLd false 1 t10 m).bind fun t11=>
  (sLd false 1 t2 m).bind fun t12=>
  (sIx 1 t11 t12).bind fun t13=>
  (sLd false 1 t13 m).bind fun t14=>
  (sLen Try.prog x4 t14).bind fun t15=>
  x1l call hs u NN t0 t1 t2 t14 t15 (I 0) m (fc+9)
noncomputable def xm8 (call:x1lo) (hs:FHs) (u:Nat) (t0 t1:AV) (m:Mem) (fc:Nat):O2:=
 (sCvt Try.prog x4n x9 t0).bind fun t8=>
  (sCvt Try.prog x4n x9 t1).bind fun t10=>
  (sBin Try.prog .mul x9 (.tmp 8) (.tmp 10) t8 t10).bind fun t11=>
  (sBin Try.prog .shr x9 (.tmp 12) (.const (.int .u64 32)) t11 (AV.sc (.int .u64 32))).bind fun t13=>
  (sCvt Try.prog x9 x4n t13).bind fun t14=>
  (sCvt Try.prog x9 x4n t11).bind fun t16=>
  some (AV.tup [t14,t16],m)
noncomputable def xm9 (call:x1lo) (hs:FHs) (u:Nat) (t0 t1:AV) (m:Mem) (fc:Nat):O2:=
 (sBin Try.prog .and x9 (.tmp 14) (.const (.int .u64 4294967295)) t0 (AV.sc (.int .u64 4294967295))).bind fun t15=>
  (sBin Try.prog .shr x9 (.tmp 16) (.const (.int .u64 32)) t0 (AV.sc (.int .u64 32))).bind fun t17=>
  (sBin Try.prog .and x9 (.tmp 18) (.const (.int .u64 4294967295)) t1 (AV.sc (.int .u64 4294967295))).bind fun t19=>
  (sBin Try.prog .shr x9 (.tmp 20) (.const (.int .u64 32)) t1 (AV.sc (.int .u64 32))).bind fun t21=>
  (sBin Try.prog .mul x9 (.tmp 22) (.tmp 23) t15 t19).bind fun t24=>
  (sBin Try.prog .mul x9 (.tmp 25) (.tmp 26) t17 t19).bind fun t27=>
  (sBin Try.prog .shr x9 (.tmp 28) (.const (.int .u64 32)) t24 (AV.sc (.int .u64 32))).bind fun t29=>
  (sBin Try.prog .add x9 (.tmp 27) (.tmp 29) t27 t29).bind fun t30=>
  (sBin Try.prog .and x9 (.tmp 31) (.const (.int .u64 4294967295)) t30 (AV.sc (.int .u64 4294967295))).bind fun t32=>
  (sBin Try.prog .shr x9 (.tmp 33) (.const (.int .u64 32)) t30 (AV.sc (.int .u64 32))).bind fun t34=>
  (sBin Try.prog .mul x9 (.tmp 36) (.tmp 37) t15 t21).bind fun t38=>
  (sBin Try.prog .add x9 (.tmp 35) (.tmp 38) t32 t38).bind fun t39=>
  (sBin Try.prog .mul x9 (.tmp 40) (.tmp 41) t17 t21).bind fun t42=>
  (sBin Try.prog .add x9 (.tmp 42) (.tmp 43) t42 t34).bind fun t44=>
  (sBin Try.prog .shr x9 (.tmp 45) (.const (.int .u64 32)) t39 (AV.sc (.int .u64 32))).bind fun t46=>
  (sBin Try.prog .add x9 (.tmp 44) (.tmp 46) t44 t46).bind fun t47=>
  (sBin Try.prog .mul x9 (.tmp 48) (.tmp 49) t0 t1).bind fun t50=>
  some (AV.tup [t47,t50],m)
end Go.Ix
