import Derived.Test.YtpeakdjfagbpcaaGreatFxText0
import Derived.Test.YtpeakdjfagbpcaaGreatFxEnt
import Derived.Test.YtpeakdjfagbpcaaGreatFxRules
namespace Go.Ix
open Go.Proofs
noncomputable def table:List (FuncId×FnT):=[(x48,x8v),(x58,x8w),(x3e,x8x),(x1c,x8y),(x1v,x8z),(xu,x90),(x3f,x91),(x49,x92),(x3g,x93),(x1w,x94),(x4a,x95),(x1d,xet),(x4b,x96),(x4c,x97),(x4d,x98),(x3h,x99),(x1x,x9a),(x4e,x9b),(x13,x67),(x1y,x9c),(x3i,x9d),(x4f,x9e),(x3j,x9f),(x4g,x9g),(x4h,x9h),(x1z,x9i),(xw,x9j),(x3k,x9k),(x3l,x9l),(x4i,x9m),(x3m,x9n),(x3n,x9o),(x4j,x9p),(x4k,x9q),(x4l,x9r),(x20,x9s),(x4m,x9t),(x3o,x9u),(x3p,x9v),(x21,x9w),(x3q,x9x),(x4n,x9y),(x3r,x9z),(x3s,xa0),(x3t,xa1),(x4o,xa2),(x3u,xa3),(x4p,xa4),(x4q,xa5),(x4r,xa6),(x4s,xa7),(xj,xa8),(x4t,xa9),(x3v,xaa),(x4u,xab),(x3w,xac),(x4v,xad),(x22,xae),(x4w,xaf),(x14,xag),(x23,xah),(x4x,xai),(x59,xaj),(x3x,xak),(x4y,xal),(x3y,xam),(x4z,xan),(x3z,xao),(x50,xap),(x40,xaq)]
noncomputable def whole(f:FuncId):FnT:=fun call hs args m=>x16y Tryz.prog pol NN call hs f args m
noncomputable def x13e:Nat->x13d
 |0=>fun _ _ _ _=>none
 |d+1=>fun hs f args m=>look (whole f) f table (x13e d) hs args m
theorem xlb(d:Nat)(hs:FHs)(args:List AV)(m:Mem):x13e (d+1) hs x58 args m=x8w (x13e d) hs args m:=by kernel_rfl
theorem xlc(d:Nat)(hs:FHs)(args:List AV)(m:Mem):x13e (d+1) hs x3e args m=x8x (x13e d) hs args m:=by kernel_rfl
theorem xld(d:Nat)(hs:FHs)(args:List AV)(m:Mem):x13e (d+1) hs x1c args m=x8y (x13e d) hs args m:=by kernel_rfl
theorem xle(d:Nat)(hs:FHs)(args:List AV)(m:Mem):x13e (d+1) hs x1v args m=x8z (x13e d) hs args m:=by kernel_rfl
theorem xlf(d:Nat)(hs:FHs)(args:List AV)(m:Mem):x13e (d+1) hs xu args m=x90 (x13e d) hs args m:=by kernel_rfl
theorem xlg(d:Nat)(hs:FHs)(args:List AV)(m:Mem):x13e (d+1) hs x3f args m=x91 (x13e d) hs args m:=by kernel_rfl
theorem xlh(d:Nat)(hs:FHs)(args:List AV)(m:Mem):x13e (d+1) hs x49 args m=x92 (x13e d) hs args m:=by kernel_rfl
theorem xli(d:Nat)(hs:FHs)(args:List AV)(m:Mem):x13e (d+1) hs x3g args m=x93 (x13e d) hs args m:=by kernel_rfl
theorem xlj(d:Nat)(hs:FHs)(args:List AV)(m:Mem):x13e (d+1) hs x1w args m=x94 (x13e d) hs args m:=by kernel_rfl
theorem xlk(d:Nat)(hs:FHs)(args:List AV)(m:Mem):x13e (d+1) hs x4a args m=x95 (x13e d) hs args m:=by kernel_rfl
theorem xll(d:Nat)(hs:FHs)(args:List AV)(m:Mem):x13e (d+1) hs x1d args m=xet (x13e d) hs args m:=by kernel_rfl
theorem xlm(d:Nat)(hs:FHs)(args:List AV)(m:Mem):x13e (d+1) hs x4b args m=x96 (x13e d) hs args m:=by kernel_rfl
theorem xln(d:Nat)(hs:FHs)(args:List AV)(m:Mem):x13e (d+1) hs x4c args m=x97 (x13e d) hs args m:=by kernel_rfl
theorem xlo(d:Nat)(hs:FHs)(args:List AV)(m:Mem):x13e (d+1) hs x4d args m=x98 (x13e d) hs args m:=by kernel_rfl
theorem xlp(d:Nat)(hs:FHs)(args:List AV)(m:Mem):x13e (d+1) hs x3h args m=x99 (x13e d) hs args m:=by kernel_rfl
theorem xlq(d:Nat)(hs:FHs)(args:List AV)(m:Mem):x13e (d+1) hs x1x args m=x9a (x13e d) hs args m:=by kernel_rfl
theorem xlr(d:Nat)(hs:FHs)(args:List AV)(m:Mem):x13e (d+1) hs x4e args m=x9b (x13e d) hs args m:=by kernel_rfl
theorem xeu(d:Nat)(hs:FHs)(args:List AV)(m:Mem):x13e (d+1) hs x13 args m=x67 (x13e d) hs args m:=by kernel_rfl
theorem xls(d:Nat)(hs:FHs)(args:List AV)(m:Mem):x13e (d+1) hs x1y args m=x9c (x13e d) hs args m:=by kernel_rfl
theorem xlt(d:Nat)(hs:FHs)(args:List AV)(m:Mem):x13e (d+1) hs x3i args m=x9d (x13e d) hs args m:=by kernel_rfl
theorem xlu(d:Nat)(hs:FHs)(args:List AV)(m:Mem):x13e (d+1) hs x4f args m=x9e (x13e d) hs args m:=by kernel_rfl
theorem xlv(d:Nat)(hs:FHs)(args:List AV)(m:Mem):x13e (d+1) hs x3j args m=x9f (x13e d) hs args m:=by kernel_rfl
theorem xlw(d:Nat)(hs:FHs)(args:List AV)(m:Mem):x13e (d+1) hs x4g args m=x9g (x13e d) hs args m:=by kernel_rfl
theorem xlx(d:Nat)(hs:FHs)(args:List AV)(m:Mem):x13e (d+1) hs x4h args m=x9h (x13e d) hs args m:=by kernel_rfl
theorem xly(d:Nat)(hs:FHs)(args:List AV)(m:Mem):x13e (d+1) hs x1z args m=x9i (x13e d) hs args m:=by kernel_rfl
theorem xlz(d:Nat)(hs:FHs)(args:List AV)(m:Mem):x13e (d+1) hs xw args m=x9j (x13e d) hs args m:=by kernel_rfl
theorem xm0(d:Nat)(hs:FHs)(args:List AV)(m:Mem):x13e (d+1) hs x3k args m=x9k (x13e d) hs args m:=by kernel_rfl
theorem xm1(d:Nat)(hs:FHs)(args:List AV)(m:Mem):x13e (d+1) hs x3l args m=x9l (x13e d) hs args m:=by kernel_rfl
theorem xm2(d:Nat)(hs:FHs)(args:List AV)(m:Mem):x13e (d+1) hs x4i args m=x9m (x13e d) hs args m:=by kernel_rfl
theorem xm3(d:Nat)(hs:FHs)(args:List AV)(m:Mem):x13e (d+1) hs x3m args m=x9n (x13e d) hs args m:=by kernel_rfl
theorem xm4(d:Nat)(hs:FHs)(args:List AV)(m:Mem):x13e (d+1) hs x3n args m=x9o (x13e d) hs args m:=by kernel_rfl
theorem xm5(d:Nat)(hs:FHs)(args:List AV)(m:Mem):x13e (d+1) hs x4j args m=x9p (x13e d) hs args m:=by kernel_rfl
theorem xm6(d:Nat)(hs:FHs)(args:List AV)(m:Mem):x13e (d+1) hs x4k args m=x9q (x13e d) hs args m:=by kernel_rfl
theorem xm7(d:Nat)(hs:FHs)(args:List AV)(m:Mem):x13e (d+1) hs x4l args m=x9r (x13e d) hs args m:=by kernel_rfl
theorem xm8(d:Nat)(hs:FHs)(args:List AV)(m:Mem):x13e (d+1) hs x20 args m=x9s (x13e d) hs args m:=by kernel_rfl
theorem xm9(d:Nat)(hs:FHs)(args:List AV)(m:Mem):x13e (d+1) hs x4m args m=x9t (x13e d) hs args m:=by kernel_rfl
theorem xma(d:Nat)(hs:FHs)(args:List AV)(m:Mem):x13e (d+1) hs x3o args m=x9u (x13e d) hs args m:=by kernel_rfl
theorem xmb(d:Nat)(hs:FHs)(args:List AV)(m:Mem):x13e (d+1) hs x3p args m=x9v (x13e d) hs args m:=by kernel_rfl
theorem xmc(d:Nat)(hs:FHs)(args:List AV)(m:Mem):x13e (d+1) hs x21 args m=x9w (x13e d) hs args m:=by kernel_rfl
theorem xmd(d:Nat)(hs:FHs)(args:List AV)(m:Mem):x13e (d+1) hs x3q args m=x9x (x13e d) hs args m:=by kernel_rfl
theorem xme(d:Nat)(hs:FHs)(args:List AV)(m:Mem):x13e (d+1) hs x4n args m=x9y (x13e d) hs args m:=by kernel_rfl
theorem xmf(d:Nat)(hs:FHs)(args:List AV)(m:Mem):x13e (d+1) hs x3r args m=x9z (x13e d) hs args m:=by kernel_rfl
theorem xmg(d:Nat)(hs:FHs)(args:List AV)(m:Mem):x13e (d+1) hs x3s args m=xa0 (x13e d) hs args m:=by kernel_rfl
theorem xmh(d:Nat)(hs:FHs)(args:List AV)(m:Mem):x13e (d+1) hs x3t args m=xa1 (x13e d) hs args m:=by kernel_rfl
theorem xmi(d:Nat)(hs:FHs)(args:List AV)(m:Mem):x13e (d+1) hs x4o args m=xa2 (x13e d) hs args m:=by kernel_rfl
theorem xmj(d:Nat)(hs:FHs)(args:List AV)(m:Mem):x13e (d+1) hs x3u args m=xa3 (x13e d) hs args m:=by kernel_rfl
theorem xmk(d:Nat)(hs:FHs)(args:List AV)(m:Mem):x13e (d+1) hs x4p args m=xa4 (x13e d) hs args m:=by kernel_rfl
theorem xml(d:Nat)(hs:FHs)(args:List AV)(m:Mem):x13e (d+1) hs x4q args m=xa5 (x13e d) hs args m:=by kernel_rfl
theorem xmm(d:Nat)(hs:FHs)(args:List AV)(m:Mem):x13e (d+1) hs x4r args m=xa6 (x13e d) hs args m:=by kernel_rfl
theorem xmn(d:Nat)(hs:FHs)(args:List AV)(m:Mem):x13e (d+1) hs x4s args m=xa7 (x13e d) hs args m:=by kernel_rfl
theorem xmo(d:Nat)(hs:FHs)(args:List AV)(m:Mem):x13e (d+1) hs xj args m=xa8 (x13e d) hs args m:=by kernel_rfl
theorem xmp(d:Nat)(hs:FHs)(args:List AV)(m:Mem):x13e (d+1) hs x4t args m=xa9 (x13e d) hs args m:=by kernel_rfl
theorem xmq(d:Nat)(hs:FHs)(args:List AV)(m:Mem):x13e (d+1) hs x3v args m=xaa (x13e d) hs args m:=by kernel_rfl
theorem xmr(d:Nat)(hs:FHs)(args:List AV)(m:Mem):x13e (d+1) hs x48 args m=x8v (x13e d) hs args m:=by kernel_rfl
theorem xms(d:Nat)(hs:FHs)(args:List AV)(m:Mem):x13e (d+1) hs x4u args m=xab (x13e d) hs args m:=by kernel_rfl
theorem xmt(d:Nat)(hs:FHs)(args:List AV)(m:Mem):x13e (d+1) hs x3w args m=xac (x13e d) hs args m:=by kernel_rfl
theorem xmu(d:Nat)(hs:FHs)(args:List AV)(m:Mem):x13e (d+1) hs x4v args m=xad (x13e d) hs args m:=by kernel_rfl
theorem xmv(d:Nat)(hs:FHs)(args:List AV)(m:Mem):x13e (d+1) hs x22 args m=xae (x13e d) hs args m:=by kernel_rfl
theorem xmw(d:Nat)(hs:FHs)(args:List AV)(m:Mem):x13e (d+1) hs x4w args m=xaf (x13e d) hs args m:=by kernel_rfl
theorem xmx(d:Nat)(hs:FHs)(args:List AV)(m:Mem):x13e (d+1) hs x14 args m=xag (x13e d) hs args m:=by kernel_rfl
theorem xmy(d:Nat)(hs:FHs)(args:List AV)(m:Mem):x13e (d+1) hs x23 args m=xah (x13e d) hs args m:=by kernel_rfl
theorem xmz(d:Nat)(hs:FHs)(args:List AV)(m:Mem):x13e (d+1) hs x4x args m=xai (x13e d) hs args m:=by kernel_rfl
theorem xn0(d:Nat)(hs:FHs)(args:List AV)(m:Mem):x13e (d+1) hs x59 args m=xaj (x13e d) hs args m:=by kernel_rfl
theorem xn1(d:Nat)(hs:FHs)(args:List AV)(m:Mem):x13e (d+1) hs x3x args m=xak (x13e d) hs args m:=by kernel_rfl
theorem xn2(d:Nat)(hs:FHs)(args:List AV)(m:Mem):x13e (d+1) hs x4y args m=xal (x13e d) hs args m:=by kernel_rfl
theorem xn3(d:Nat)(hs:FHs)(args:List AV)(m:Mem):x13e (d+1) hs x3y args m=xam (x13e d) hs args m:=by kernel_rfl
theorem xn4(d:Nat)(hs:FHs)(args:List AV)(m:Mem):x13e (d+1) hs x4z args m=xan (x13e d) hs args m:=by kernel_rfl
theorem xn5(d:Nat)(hs:FHs)(args:List AV)(m:Mem):x13e (d+1) hs x3z args m=xao (x13e d) hs args m:=by kernel_rfl
theorem xn6(d:Nat)(hs:FHs)(args:List AV)(m:Mem):x13e (d+1) hs x50 args m=xap (x13e d) hs args m:=by kernel_rfl
theorem xn7(d:Nat)(hs:FHs)(args:List AV)(m:Mem):x13e (d+1) hs x40 args m=xaq (x13e d) hs args m:=by kernel_rfl
end Go.Ix
