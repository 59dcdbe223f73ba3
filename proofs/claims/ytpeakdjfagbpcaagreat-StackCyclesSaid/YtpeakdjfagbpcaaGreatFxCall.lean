import Derived.Test.YtpeakdjfagbpcaaGreatFxText0
import Derived.Test.YtpeakdjfagbpcaaGreatFxEnt
import Derived.Test.YtpeakdjfagbpcaaGreatFxRules
namespace Go.Ix
open Go.Proofs
noncomputable def table:List (FuncId×FnT):=[(x4c,x7c),(xu,x7d),(x2y,x7e),(x3o,x7f),(x1o,x7g),(x17,x7h),(x2z,x4y),(x3p,x7i),(x30,x7j),(x31,xbo),(x32,x7k),(x3q,x7l),(x33,x7m),(x34,x7n),(x35,x4z),(x36,x7o),(x3r,x7p),(x3s,x7q),(x37,x7r),(x38,x7s),(xv,x7t),(x39,x7u),(x3t,x7v),(x3u,x7w),(x3a,x7x),(x3b,x7y),(x3c,x7z),(x3d,x80),(x1p,x81),(x3v,x82),(x3w,x83),(x18,x84),(x3e,x85),(x3x,x86),(x3f,x87),(x3y,x88),(x3z,x89),(x3g,x8a),(x1q,x8b),(x1r,x8c),(x40,x8d),(x41,x8e),(x42,x8f),(x43,x8g),(xj,x8h),(x44,x8i),(x45,x8j),(x46,x8k),(x1s,x8l),(x11,x8m),(x47,x8n),(x12,x8o),(x1t,x8p),(x48,x8q)]
noncomputable def whole(f:FuncId):FnT:=fun call hs args m=>xy5 Tryz.prog pol NN call hs f args m
noncomputable def xuu:Nat->xut
 |0=>fun _ _ _ _=>none
 |d+1=>fun hs f args m=>look (whole f) f table (xuu d) hs args m
theorem xgy(d:Nat)(hs:FHs)(args:List AV)(m:Mem):xuu (d+1) hs x4c args m=x7c (xuu d) hs args m:=by kernel_rfl
theorem xgz(d:Nat)(hs:FHs)(args:List AV)(m:Mem):xuu (d+1) hs xu args m=x7d (xuu d) hs args m:=by kernel_rfl
theorem xh0(d:Nat)(hs:FHs)(args:List AV)(m:Mem):xuu (d+1) hs x2y args m=x7e (xuu d) hs args m:=by kernel_rfl
theorem xh1(d:Nat)(hs:FHs)(args:List AV)(m:Mem):xuu (d+1) hs x3o args m=x7f (xuu d) hs args m:=by kernel_rfl
theorem xh2(d:Nat)(hs:FHs)(args:List AV)(m:Mem):xuu (d+1) hs x1o args m=x7g (xuu d) hs args m:=by kernel_rfl
theorem xh3(d:Nat)(hs:FHs)(args:List AV)(m:Mem):xuu (d+1) hs x17 args m=x7h (xuu d) hs args m:=by kernel_rfl
theorem xbp(d:Nat)(hs:FHs)(args:List AV)(m:Mem):xuu (d+1) hs x2z args m=x4y (xuu d) hs args m:=by kernel_rfl
theorem xh4(d:Nat)(hs:FHs)(args:List AV)(m:Mem):xuu (d+1) hs x3p args m=x7i (xuu d) hs args m:=by kernel_rfl
theorem xh5(d:Nat)(hs:FHs)(args:List AV)(m:Mem):xuu (d+1) hs x30 args m=x7j (xuu d) hs args m:=by kernel_rfl
theorem xh6(d:Nat)(hs:FHs)(args:List AV)(m:Mem):xuu (d+1) hs x31 args m=xbo (xuu d) hs args m:=by kernel_rfl
theorem xh7(d:Nat)(hs:FHs)(args:List AV)(m:Mem):xuu (d+1) hs x32 args m=x7k (xuu d) hs args m:=by kernel_rfl
theorem xh8(d:Nat)(hs:FHs)(args:List AV)(m:Mem):xuu (d+1) hs x3q args m=x7l (xuu d) hs args m:=by kernel_rfl
theorem xh9(d:Nat)(hs:FHs)(args:List AV)(m:Mem):xuu (d+1) hs x33 args m=x7m (xuu d) hs args m:=by kernel_rfl
theorem xha(d:Nat)(hs:FHs)(args:List AV)(m:Mem):xuu (d+1) hs x34 args m=x7n (xuu d) hs args m:=by kernel_rfl
theorem xbq(d:Nat)(hs:FHs)(args:List AV)(m:Mem):xuu (d+1) hs x35 args m=x4z (xuu d) hs args m:=by kernel_rfl
theorem xhb(d:Nat)(hs:FHs)(args:List AV)(m:Mem):xuu (d+1) hs x36 args m=x7o (xuu d) hs args m:=by kernel_rfl
theorem xhc(d:Nat)(hs:FHs)(args:List AV)(m:Mem):xuu (d+1) hs x3r args m=x7p (xuu d) hs args m:=by kernel_rfl
theorem xhd(d:Nat)(hs:FHs)(args:List AV)(m:Mem):xuu (d+1) hs x3s args m=x7q (xuu d) hs args m:=by kernel_rfl
theorem xhe(d:Nat)(hs:FHs)(args:List AV)(m:Mem):xuu (d+1) hs x37 args m=x7r (xuu d) hs args m:=by kernel_rfl
theorem xhf(d:Nat)(hs:FHs)(args:List AV)(m:Mem):xuu (d+1) hs x38 args m=x7s (xuu d) hs args m:=by kernel_rfl
theorem xhg(d:Nat)(hs:FHs)(args:List AV)(m:Mem):xuu (d+1) hs xv args m=x7t (xuu d) hs args m:=by kernel_rfl
theorem xhh(d:Nat)(hs:FHs)(args:List AV)(m:Mem):xuu (d+1) hs x39 args m=x7u (xuu d) hs args m:=by kernel_rfl
theorem xhi(d:Nat)(hs:FHs)(args:List AV)(m:Mem):xuu (d+1) hs x3t args m=x7v (xuu d) hs args m:=by kernel_rfl
theorem xhj(d:Nat)(hs:FHs)(args:List AV)(m:Mem):xuu (d+1) hs x3u args m=x7w (xuu d) hs args m:=by kernel_rfl
theorem xhk(d:Nat)(hs:FHs)(args:List AV)(m:Mem):xuu (d+1) hs x3a args m=x7x (xuu d) hs args m:=by kernel_rfl
theorem xhl(d:Nat)(hs:FHs)(args:List AV)(m:Mem):xuu (d+1) hs x3b args m=x7y (xuu d) hs args m:=by kernel_rfl
theorem xhm(d:Nat)(hs:FHs)(args:List AV)(m:Mem):xuu (d+1) hs x3c args m=x7z (xuu d) hs args m:=by kernel_rfl
theorem xhn(d:Nat)(hs:FHs)(args:List AV)(m:Mem):xuu (d+1) hs x3d args m=x80 (xuu d) hs args m:=by kernel_rfl
theorem xho(d:Nat)(hs:FHs)(args:List AV)(m:Mem):xuu (d+1) hs x1p args m=x81 (xuu d) hs args m:=by kernel_rfl
theorem xhp(d:Nat)(hs:FHs)(args:List AV)(m:Mem):xuu (d+1) hs x3v args m=x82 (xuu d) hs args m:=by kernel_rfl
theorem xhq(d:Nat)(hs:FHs)(args:List AV)(m:Mem):xuu (d+1) hs x3w args m=x83 (xuu d) hs args m:=by kernel_rfl
theorem xhr(d:Nat)(hs:FHs)(args:List AV)(m:Mem):xuu (d+1) hs x18 args m=x84 (xuu d) hs args m:=by kernel_rfl
theorem xhs(d:Nat)(hs:FHs)(args:List AV)(m:Mem):xuu (d+1) hs x3e args m=x85 (xuu d) hs args m:=by kernel_rfl
theorem xht(d:Nat)(hs:FHs)(args:List AV)(m:Mem):xuu (d+1) hs x3x args m=x86 (xuu d) hs args m:=by kernel_rfl
theorem xhu(d:Nat)(hs:FHs)(args:List AV)(m:Mem):xuu (d+1) hs x3f args m=x87 (xuu d) hs args m:=by kernel_rfl
theorem xhv(d:Nat)(hs:FHs)(args:List AV)(m:Mem):xuu (d+1) hs x3y args m=x88 (xuu d) hs args m:=by kernel_rfl
theorem xhw(d:Nat)(hs:FHs)(args:List AV)(m:Mem):xuu (d+1) hs x3z args m=x89 (xuu d) hs args m:=by kernel_rfl
theorem xhx(d:Nat)(hs:FHs)(args:List AV)(m:Mem):xuu (d+1) hs x3g args m=x8a (xuu d) hs args m:=by kernel_rfl
theorem xhy(d:Nat)(hs:FHs)(args:List AV)(m:Mem):xuu (d+1) hs x1q args m=x8b (xuu d) hs args m:=by kernel_rfl
theorem xhz(d:Nat)(hs:FHs)(args:List AV)(m:Mem):xuu (d+1) hs x1r args m=x8c (xuu d) hs args m:=by kernel_rfl
theorem xi0(d:Nat)(hs:FHs)(args:List AV)(m:Mem):xuu (d+1) hs x40 args m=x8d (xuu d) hs args m:=by kernel_rfl
theorem xi1(d:Nat)(hs:FHs)(args:List AV)(m:Mem):xuu (d+1) hs x41 args m=x8e (xuu d) hs args m:=by kernel_rfl
theorem xi2(d:Nat)(hs:FHs)(args:List AV)(m:Mem):xuu (d+1) hs x42 args m=x8f (xuu d) hs args m:=by kernel_rfl
theorem xi3(d:Nat)(hs:FHs)(args:List AV)(m:Mem):xuu (d+1) hs x43 args m=x8g (xuu d) hs args m:=by kernel_rfl
theorem xi4(d:Nat)(hs:FHs)(args:List AV)(m:Mem):xuu (d+1) hs xj args m=x8h (xuu d) hs args m:=by kernel_rfl
theorem xi5(d:Nat)(hs:FHs)(args:List AV)(m:Mem):xuu (d+1) hs x44 args m=x8i (xuu d) hs args m:=by kernel_rfl
theorem xi6(d:Nat)(hs:FHs)(args:List AV)(m:Mem):xuu (d+1) hs x45 args m=x8j (xuu d) hs args m:=by kernel_rfl
theorem xi7(d:Nat)(hs:FHs)(args:List AV)(m:Mem):xuu (d+1) hs x46 args m=x8k (xuu d) hs args m:=by kernel_rfl
theorem xi8(d:Nat)(hs:FHs)(args:List AV)(m:Mem):xuu (d+1) hs x1s args m=x8l (xuu d) hs args m:=by kernel_rfl
theorem xi9(d:Nat)(hs:FHs)(args:List AV)(m:Mem):xuu (d+1) hs x11 args m=x8m (xuu d) hs args m:=by kernel_rfl
theorem xia(d:Nat)(hs:FHs)(args:List AV)(m:Mem):xuu (d+1) hs x47 args m=x8n (xuu d) hs args m:=by kernel_rfl
theorem xib(d:Nat)(hs:FHs)(args:List AV)(m:Mem):xuu (d+1) hs x12 args m=x8o (xuu d) hs args m:=by kernel_rfl
theorem xic(d:Nat)(hs:FHs)(args:List AV)(m:Mem):xuu (d+1) hs x1t args m=x8p (xuu d) hs args m:=by kernel_rfl
theorem xid(d:Nat)(hs:FHs)(args:List AV)(m:Mem):xuu (d+1) hs x48 args m=x8q (xuu d) hs args m:=by kernel_rfl
end Go.Ix
