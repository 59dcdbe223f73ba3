import Derived.Test.YtdfahbenacjgeaaFxText0
import Derived.Test.YtdfahbenacjgeaaFxEnt
import Derived.Test.YtdfahbenacjgeaaFxRules
namespace Go.Ix
open Go.Proofs
noncomputable def table:List (FuncId×FnT):=[(cO,kL),(eN,kM),(cP,kN),(cQ,kO),(bK,kP),(aP,fG),(cR,kQ),(bL,kR),(cS,kS),(cT,kT),(cU,kU),(aH,kV),(cV,kW),(cW,kX),(cX,kY),(bM,kZ),(cY,lA),(aS,lB),(bN,lC),(bO,lE),(bP,lF),(aI,lG),(bQ,lH),(aT,lI),(bR,lJ),(bS,lK),(cZ,lL),(dA,lM),(bT,lN),(aM,lO),(dB,lP),(aU,lQ),(bU,lR),(dC,lS),(aV,lT),(bV,lU),(dD,lV),(bW,lW),(bX,lX),(dE,lY),(aQ,lZ),(dF,mA),(dG,mB),(aX,mD),(dH,mE),(dI,mF),(aF,mG),(eO,mH),(bY,mI),(bZ,mJ),(dJ,mK),(dK,mL),(cA,mM),(dL,mN),(cB,mO),(dM,mP),(cC,mQ)]
noncomputable def whole(f:FuncId):FnT:=λcall hs args m=>yT Try.prog pol NN call hs f args m
noncomputable def qG:Nat->qI
 |0=>λ_ _ _ _=>none
 |d+1=>λhs f args m=>look (whole f) f table (qG d) hs args m
theorem xp(d:Nat)(hs:FHs)(args:List AV)(m:Mem):qG (d+1) hs eN args m=kM (qG d) hs args m:=by kernel_rfl
theorem xq(d:Nat)(hs:FHs)(args:List AV)(m:Mem):qG (d+1) hs cP args m=kN (qG d) hs args m:=by kernel_rfl
theorem xr(d:Nat)(hs:FHs)(args:List AV)(m:Mem):qG (d+1) hs cQ args m=kO (qG d) hs args m:=by kernel_rfl
theorem xt(d:Nat)(hs:FHs)(args:List AV)(m:Mem):qG (d+1) hs bK args m=kP (qG d) hs args m:=by kernel_rfl
theorem x8(d:Nat)(hs:FHs)(args:List AV)(m:Mem):qG (d+1) hs aP args m=fG (qG d) hs args m:=by kernel_rfl
theorem xu(d:Nat)(hs:FHs)(args:List AV)(m:Mem):qG (d+1) hs cR args m=kQ (qG d) hs args m:=by kernel_rfl
theorem xv(d:Nat)(hs:FHs)(args:List AV)(m:Mem):qG (d+1) hs bL args m=kR (qG d) hs args m:=by kernel_rfl
theorem xw(d:Nat)(hs:FHs)(args:List AV)(m:Mem):qG (d+1) hs cS args m=kS (qG d) hs args m:=by kernel_rfl
theorem xx(d:Nat)(hs:FHs)(args:List AV)(m:Mem):qG (d+1) hs cT args m=kT (qG d) hs args m:=by kernel_rfl
theorem xy(d:Nat)(hs:FHs)(args:List AV)(m:Mem):qG (d+1) hs cU args m=kU (qG d) hs args m:=by kernel_rfl
theorem xz(d:Nat)(hs:FHs)(args:List AV)(m:Mem):qG (d+1) hs aH args m=kV (qG d) hs args m:=by kernel_rfl
theorem x10(d:Nat)(hs:FHs)(args:List AV)(m:Mem):qG (d+1) hs cV args m=kW (qG d) hs args m:=by kernel_rfl
theorem x11(d:Nat)(hs:FHs)(args:List AV)(m:Mem):qG (d+1) hs cW args m=kX (qG d) hs args m:=by kernel_rfl
theorem x12(d:Nat)(hs:FHs)(args:List AV)(m:Mem):qG (d+1) hs cX args m=kY (qG d) hs args m:=by kernel_rfl
theorem x13(d:Nat)(hs:FHs)(args:List AV)(m:Mem):qG (d+1) hs bM args m=kZ (qG d) hs args m:=by kernel_rfl
theorem x14(d:Nat)(hs:FHs)(args:List AV)(m:Mem):qG (d+1) hs cY args m=lA (qG d) hs args m:=by kernel_rfl
theorem x15(d:Nat)(hs:FHs)(args:List AV)(m:Mem):qG (d+1) hs aS args m=lB (qG d) hs args m:=by kernel_rfl
theorem x16(d:Nat)(hs:FHs)(args:List AV)(m:Mem):qG (d+1) hs bN args m=lC (qG d) hs args m:=by kernel_rfl
theorem x17(d:Nat)(hs:FHs)(args:List AV)(m:Mem):qG (d+1) hs bO args m=lE (qG d) hs args m:=by kernel_rfl
theorem x18(d:Nat)(hs:FHs)(args:List AV)(m:Mem):qG (d+1) hs bP args m=lF (qG d) hs args m:=by kernel_rfl
theorem x19(d:Nat)(hs:FHs)(args:List AV)(m:Mem):qG (d+1) hs aI args m=lG (qG d) hs args m:=by kernel_rfl
theorem x1a(d:Nat)(hs:FHs)(args:List AV)(m:Mem):qG (d+1) hs bQ args m=lH (qG d) hs args m:=by kernel_rfl
theorem x1b(d:Nat)(hs:FHs)(args:List AV)(m:Mem):qG (d+1) hs aT args m=lI (qG d) hs args m:=by kernel_rfl
theorem x1c(d:Nat)(hs:FHs)(args:List AV)(m:Mem):qG (d+1) hs bR args m=lJ (qG d) hs args m:=by kernel_rfl
theorem x1d(d:Nat)(hs:FHs)(args:List AV)(m:Mem):qG (d+1) hs bS args m=lK (qG d) hs args m:=by kernel_rfl
theorem x1e(d:Nat)(hs:FHs)(args:List AV)(m:Mem):qG (d+1) hs cZ args m=lL (qG d) hs args m:=by kernel_rfl
theorem x1f(d:Nat)(hs:FHs)(args:List AV)(m:Mem):qG (d+1) hs dA args m=lM (qG d) hs args m:=by kernel_rfl
theorem x1g(d:Nat)(hs:FHs)(args:List AV)(m:Mem):qG (d+1) hs cO args m=kL (qG d) hs args m:=by kernel_rfl
theorem x1h(d:Nat)(hs:FHs)(args:List AV)(m:Mem):qG (d+1) hs bT args m=lN (qG d) hs args m:=by kernel_rfl
theorem x1i(d:Nat)(hs:FHs)(args:List AV)(m:Mem):qG (d+1) hs aM args m=lO (qG d) hs args m:=by kernel_rfl
theorem x1j(d:Nat)(hs:FHs)(args:List AV)(m:Mem):qG (d+1) hs dB args m=lP (qG d) hs args m:=by kernel_rfl
theorem x1k(d:Nat)(hs:FHs)(args:List AV)(m:Mem):qG (d+1) hs aU args m=lQ (qG d) hs args m:=by kernel_rfl
theorem x1l(d:Nat)(hs:FHs)(args:List AV)(m:Mem):qG (d+1) hs bU args m=lR (qG d) hs args m:=by kernel_rfl
theorem x1m(d:Nat)(hs:FHs)(args:List AV)(m:Mem):qG (d+1) hs dC args m=lS (qG d) hs args m:=by kernel_rfl
theorem x1n(d:Nat)(hs:FHs)(args:List AV)(m:Mem):qG (d+1) hs aV args m=lT (qG d) hs args m:=by kernel_rfl
theorem x1o(d:Nat)(hs:FHs)(args:List AV)(m:Mem):qG (d+1) hs bV args m=lU (qG d) hs args m:=by kernel_rfl
theorem x1p(d:Nat)(hs:FHs)(args:List AV)(m:Mem):qG (d+1) hs dD args m=lV (qG d) hs args m:=by kernel_rfl
theorem x1q(d:Nat)(hs:FHs)(args:List AV)(m:Mem):qG (d+1) hs bW args m=lW (qG d) hs args m:=by kernel_rfl
theorem x1r(d:Nat)(hs:FHs)(args:List AV)(m:Mem):qG (d+1) hs bX args m=lX (qG d) hs args m:=by kernel_rfl
theorem x1s(d:Nat)(hs:FHs)(args:List AV)(m:Mem):qG (d+1) hs dE args m=lY (qG d) hs args m:=by kernel_rfl
theorem x1t(d:Nat)(hs:FHs)(args:List AV)(m:Mem):qG (d+1) hs aQ args m=lZ (qG d) hs args m:=by kernel_rfl
theorem x1u(d:Nat)(hs:FHs)(args:List AV)(m:Mem):qG (d+1) hs dF args m=mA (qG d) hs args m:=by kernel_rfl
theorem x1v(d:Nat)(hs:FHs)(args:List AV)(m:Mem):qG (d+1) hs dG args m=mB (qG d) hs args m:=by kernel_rfl
theorem x1w(d:Nat)(hs:FHs)(args:List AV)(m:Mem):qG (d+1) hs aX args m=mD (qG d) hs args m:=by kernel_rfl
theorem x1x(d:Nat)(hs:FHs)(args:List AV)(m:Mem):qG (d+1) hs dH args m=mE (qG d) hs args m:=by kernel_rfl
theorem x1y(d:Nat)(hs:FHs)(args:List AV)(m:Mem):qG (d+1) hs dI args m=mF (qG d) hs args m:=by kernel_rfl
theorem x1z(d:Nat)(hs:FHs)(args:List AV)(m:Mem):qG (d+1) hs aF args m=mG (qG d) hs args m:=by kernel_rfl
theorem x20(d:Nat)(hs:FHs)(args:List AV)(m:Mem):qG (d+1) hs eO args m=mH (qG d) hs args m:=by kernel_rfl
theorem x21(d:Nat)(hs:FHs)(args:List AV)(m:Mem):qG (d+1) hs bY args m=mI (qG d) hs args m:=by kernel_rfl
theorem x22(d:Nat)(hs:FHs)(args:List AV)(m:Mem):qG (d+1) hs bZ args m=mJ (qG d) hs args m:=by kernel_rfl
theorem x23(d:Nat)(hs:FHs)(args:List AV)(m:Mem):qG (d+1) hs dJ args m=mK (qG d) hs args m:=by kernel_rfl
theorem x24(d:Nat)(hs:FHs)(args:List AV)(m:Mem):qG (d+1) hs dK args m=mL (qG d) hs args m:=by kernel_rfl
theorem x25(d:Nat)(hs:FHs)(args:List AV)(m:Mem):qG (d+1) hs cA args m=mM (qG d) hs args m:=by kernel_rfl
theorem x26(d:Nat)(hs:FHs)(args:List AV)(m:Mem):qG (d+1) hs dL args m=mN (qG d) hs args m:=by kernel_rfl
theorem x27(d:Nat)(hs:FHs)(args:List AV)(m:Mem):qG (d+1) hs cB args m=mO (qG d) hs args m:=by kernel_rfl
theorem x28(d:Nat)(hs:FHs)(args:List AV)(m:Mem):qG (d+1) hs dM args m=mP (qG d) hs args m:=by kernel_rfl
theorem x29(d:Nat)(hs:FHs)(args:List AV)(m:Mem):qG (d+1) hs cC args m=mQ (qG d) hs args m:=by kernel_rfl
end Go.Ix
