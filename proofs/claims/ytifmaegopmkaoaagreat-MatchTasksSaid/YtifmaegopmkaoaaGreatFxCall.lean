import Derived.Test.YtifmaegopmkaoaaGreatFxText0
import Derived.Test.YtifmaegopmkaoaaGreatFxEnt
import Derived.Test.YtifmaegopmkaoaaGreatFxRules
namespace Go.Ix
open Go.Proofs
noncomputable def table:List (FuncId×FnT):=[(xq,x7p),(x3o,x7q),(x27,x7r),(xr,x7s),(x1c,x4u),(x1d,x3p),(x1e,x7t),(x1f,x7u),(x28,x7v),(x1g,x4v),(x29,x4w),(x2a,x7w),(x2b,x7x),(x1h,x7y),(x1i,x7z),(xt,x3q),(x2c,x80),(x1j,x81),(xu,x82),(xf,x83),(xc,x84),(x1k,x85),(x2d,x86),(xv,x87),(x2e,x88),(x2f,x89),(xw,x4x),(x2g,x8a),(x2h,x8b),(x2i,x4y),(x2j,x8c),(xx,x8d),(x2k,x8e),(x1l,x8f),(xg,x8g),(x2l,x8h),(x2m,x8i),(x2n,x8j),(x1m,x8k),(xy,x8l),(x2o,x8m),(x2p,x3r),(xe,x8n),(xo,x8o),(x2q,x8p),(x1n,x8q),(x2r,x8r),(x2s,x8s),(x2t,x8t),(x2u,x8u),(x1o,x8v),(x1p,x8w),(xj,x8x),(x2v,x8y),(x2w,x8z),(x1q,x90),(x1r,x91),(x2x,x92),(x2y,x93),(x2z,x94),(x1s,x95),(x30,x96),(x1t,x97),(x1u,x98),(x1v,x99),(x1w,x9a),(xz,x9b)]
noncomputable def whole(f:FuncId):FnT:=λcall hs args m=>xi3 Tryz.prog pol NN call hs f args m
noncomputable def xep:Nat->xer
 |0=>λ_ _ _ _=>none
 |d+1=>λhs f args m=>look (whole f) f table (xep d) hs args m
theorem xb2(d:Nat)(hs:FHs)(args:List AV)(m:Mem):xep (d+1) hs x3o args m=x7q (xep d) hs args m:=by kernel_rfl
theorem xb3(d:Nat)(hs:FHs)(args:List AV)(m:Mem):xep (d+1) hs x27 args m=x7r (xep d) hs args m:=by kernel_rfl
theorem xb4(d:Nat)(hs:FHs)(args:List AV)(m:Mem):xep (d+1) hs xr args m=x7s (xep d) hs args m:=by kernel_rfl
theorem xap(d:Nat)(hs:FHs)(args:List AV)(m:Mem):xep (d+1) hs x1c args m=x4u (xep d) hs args m:=by kernel_rfl
theorem x9c(d:Nat)(hs:FHs)(args:List AV)(m:Mem):xep (d+1) hs x1d args m=x3p (xep d) hs args m:=by kernel_rfl
theorem xb5(d:Nat)(hs:FHs)(args:List AV)(m:Mem):xep (d+1) hs x1e args m=x7t (xep d) hs args m:=by kernel_rfl
theorem xb6(d:Nat)(hs:FHs)(args:List AV)(m:Mem):xep (d+1) hs x1f args m=x7u (xep d) hs args m:=by kernel_rfl
theorem xb7(d:Nat)(hs:FHs)(args:List AV)(m:Mem):xep (d+1) hs x28 args m=x7v (xep d) hs args m:=by kernel_rfl
theorem xaq(d:Nat)(hs:FHs)(args:List AV)(m:Mem):xep (d+1) hs x1g args m=x4v (xep d) hs args m:=by kernel_rfl
theorem xar(d:Nat)(hs:FHs)(args:List AV)(m:Mem):xep (d+1) hs x29 args m=x4w (xep d) hs args m:=by kernel_rfl
theorem xb8(d:Nat)(hs:FHs)(args:List AV)(m:Mem):xep (d+1) hs x2a args m=x7w (xep d) hs args m:=by kernel_rfl
theorem xb9(d:Nat)(hs:FHs)(args:List AV)(m:Mem):xep (d+1) hs x2b args m=x7x (xep d) hs args m:=by kernel_rfl
theorem xba(d:Nat)(hs:FHs)(args:List AV)(m:Mem):xep (d+1) hs x1h args m=x7y (xep d) hs args m:=by kernel_rfl
theorem xbb(d:Nat)(hs:FHs)(args:List AV)(m:Mem):xep (d+1) hs x1i args m=x7z (xep d) hs args m:=by kernel_rfl
theorem x9d(d:Nat)(hs:FHs)(args:List AV)(m:Mem):xep (d+1) hs xt args m=x3q (xep d) hs args m:=by kernel_rfl
theorem xbc(d:Nat)(hs:FHs)(args:List AV)(m:Mem):xep (d+1) hs x2c args m=x80 (xep d) hs args m:=by kernel_rfl
theorem xbd(d:Nat)(hs:FHs)(args:List AV)(m:Mem):xep (d+1) hs x1j args m=x81 (xep d) hs args m:=by kernel_rfl
theorem xbe(d:Nat)(hs:FHs)(args:List AV)(m:Mem):xep (d+1) hs xu args m=x82 (xep d) hs args m:=by kernel_rfl
theorem xbf(d:Nat)(hs:FHs)(args:List AV)(m:Mem):xep (d+1) hs xf args m=x83 (xep d) hs args m:=by kernel_rfl
theorem xbg(d:Nat)(hs:FHs)(args:List AV)(m:Mem):xep (d+1) hs xc args m=x84 (xep d) hs args m:=by kernel_rfl
theorem xbh(d:Nat)(hs:FHs)(args:List AV)(m:Mem):xep (d+1) hs x1k args m=x85 (xep d) hs args m:=by kernel_rfl
theorem xbi(d:Nat)(hs:FHs)(args:List AV)(m:Mem):xep (d+1) hs x2d args m=x86 (xep d) hs args m:=by kernel_rfl
theorem xbj(d:Nat)(hs:FHs)(args:List AV)(m:Mem):xep (d+1) hs xv args m=x87 (xep d) hs args m:=by kernel_rfl
theorem xbk(d:Nat)(hs:FHs)(args:List AV)(m:Mem):xep (d+1) hs x2e args m=x88 (xep d) hs args m:=by kernel_rfl
theorem xbl(d:Nat)(hs:FHs)(args:List AV)(m:Mem):xep (d+1) hs x2f args m=x89 (xep d) hs args m:=by kernel_rfl
theorem xas(d:Nat)(hs:FHs)(args:List AV)(m:Mem):xep (d+1) hs xw args m=x4x (xep d) hs args m:=by kernel_rfl
theorem xbm(d:Nat)(hs:FHs)(args:List AV)(m:Mem):xep (d+1) hs x2g args m=x8a (xep d) hs args m:=by kernel_rfl
theorem xbn(d:Nat)(hs:FHs)(args:List AV)(m:Mem):xep (d+1) hs x2h args m=x8b (xep d) hs args m:=by kernel_rfl
theorem xbo(d:Nat)(hs:FHs)(args:List AV)(m:Mem):xep (d+1) hs xq args m=x7p (xep d) hs args m:=by kernel_rfl
theorem xat(d:Nat)(hs:FHs)(args:List AV)(m:Mem):xep (d+1) hs x2i args m=x4y (xep d) hs args m:=by kernel_rfl
theorem xbp(d:Nat)(hs:FHs)(args:List AV)(m:Mem):xep (d+1) hs x2j args m=x8c (xep d) hs args m:=by kernel_rfl
theorem xbq(d:Nat)(hs:FHs)(args:List AV)(m:Mem):xep (d+1) hs xx args m=x8d (xep d) hs args m:=by kernel_rfl
theorem xbr(d:Nat)(hs:FHs)(args:List AV)(m:Mem):xep (d+1) hs x2k args m=x8e (xep d) hs args m:=by kernel_rfl
theorem xbs(d:Nat)(hs:FHs)(args:List AV)(m:Mem):xep (d+1) hs x1l args m=x8f (xep d) hs args m:=by kernel_rfl
theorem xbt(d:Nat)(hs:FHs)(args:List AV)(m:Mem):xep (d+1) hs xg args m=x8g (xep d) hs args m:=by kernel_rfl
theorem xbu(d:Nat)(hs:FHs)(args:List AV)(m:Mem):xep (d+1) hs x2l args m=x8h (xep d) hs args m:=by kernel_rfl
theorem xbv(d:Nat)(hs:FHs)(args:List AV)(m:Mem):xep (d+1) hs x2m args m=x8i (xep d) hs args m:=by kernel_rfl
theorem xbw(d:Nat)(hs:FHs)(args:List AV)(m:Mem):xep (d+1) hs x2n args m=x8j (xep d) hs args m:=by kernel_rfl
theorem xbx(d:Nat)(hs:FHs)(args:List AV)(m:Mem):xep (d+1) hs x1m args m=x8k (xep d) hs args m:=by kernel_rfl
theorem xby(d:Nat)(hs:FHs)(args:List AV)(m:Mem):xep (d+1) hs xy args m=x8l (xep d) hs args m:=by kernel_rfl
theorem xbz(d:Nat)(hs:FHs)(args:List AV)(m:Mem):xep (d+1) hs x2o args m=x8m (xep d) hs args m:=by kernel_rfl
theorem x9e(d:Nat)(hs:FHs)(args:List AV)(m:Mem):xep (d+1) hs x2p args m=x3r (xep d) hs args m:=by kernel_rfl
theorem xc0(d:Nat)(hs:FHs)(args:List AV)(m:Mem):xep (d+1) hs xe args m=x8n (xep d) hs args m:=by kernel_rfl
theorem xc1(d:Nat)(hs:FHs)(args:List AV)(m:Mem):xep (d+1) hs xo args m=x8o (xep d) hs args m:=by kernel_rfl
theorem xc2(d:Nat)(hs:FHs)(args:List AV)(m:Mem):xep (d+1) hs x2q args m=x8p (xep d) hs args m:=by kernel_rfl
theorem xc3(d:Nat)(hs:FHs)(args:List AV)(m:Mem):xep (d+1) hs x1n args m=x8q (xep d) hs args m:=by kernel_rfl
theorem xc4(d:Nat)(hs:FHs)(args:List AV)(m:Mem):xep (d+1) hs x2r args m=x8r (xep d) hs args m:=by kernel_rfl
theorem xc5(d:Nat)(hs:FHs)(args:List AV)(m:Mem):xep (d+1) hs x2s args m=x8s (xep d) hs args m:=by kernel_rfl
theorem xc6(d:Nat)(hs:FHs)(args:List AV)(m:Mem):xep (d+1) hs x2t args m=x8t (xep d) hs args m:=by kernel_rfl
theorem xc7(d:Nat)(hs:FHs)(args:List AV)(m:Mem):xep (d+1) hs x2u args m=x8u (xep d) hs args m:=by kernel_rfl
theorem xc8(d:Nat)(hs:FHs)(args:List AV)(m:Mem):xep (d+1) hs x1o args m=x8v (xep d) hs args m:=by kernel_rfl
theorem xc9(d:Nat)(hs:FHs)(args:List AV)(m:Mem):xep (d+1) hs x1p args m=x8w (xep d) hs args m:=by kernel_rfl
theorem xca(d:Nat)(hs:FHs)(args:List AV)(m:Mem):xep (d+1) hs xj args m=x8x (xep d) hs args m:=by kernel_rfl
theorem xcb(d:Nat)(hs:FHs)(args:List AV)(m:Mem):xep (d+1) hs x2v args m=x8y (xep d) hs args m:=by kernel_rfl
theorem xcc(d:Nat)(hs:FHs)(args:List AV)(m:Mem):xep (d+1) hs x2w args m=x8z (xep d) hs args m:=by kernel_rfl
theorem xcd(d:Nat)(hs:FHs)(args:List AV)(m:Mem):xep (d+1) hs x1q args m=x90 (xep d) hs args m:=by kernel_rfl
theorem xce(d:Nat)(hs:FHs)(args:List AV)(m:Mem):xep (d+1) hs x1r args m=x91 (xep d) hs args m:=by kernel_rfl
theorem xcf(d:Nat)(hs:FHs)(args:List AV)(m:Mem):xep (d+1) hs x2x args m=x92 (xep d) hs args m:=by kernel_rfl
theorem xcg(d:Nat)(hs:FHs)(args:List AV)(m:Mem):xep (d+1) hs x2y args m=x93 (xep d) hs args m:=by kernel_rfl
theorem xch(d:Nat)(hs:FHs)(args:List AV)(m:Mem):xep (d+1) hs x2z args m=x94 (xep d) hs args m:=by kernel_rfl
theorem xci(d:Nat)(hs:FHs)(args:List AV)(m:Mem):xep (d+1) hs x1s args m=x95 (xep d) hs args m:=by kernel_rfl
theorem xcj(d:Nat)(hs:FHs)(args:List AV)(m:Mem):xep (d+1) hs x30 args m=x96 (xep d) hs args m:=by kernel_rfl
theorem xck(d:Nat)(hs:FHs)(args:List AV)(m:Mem):xep (d+1) hs x1t args m=x97 (xep d) hs args m:=by kernel_rfl
theorem xcl(d:Nat)(hs:FHs)(args:List AV)(m:Mem):xep (d+1) hs x1u args m=x98 (xep d) hs args m:=by kernel_rfl
theorem xcm(d:Nat)(hs:FHs)(args:List AV)(m:Mem):xep (d+1) hs x1v args m=x99 (xep d) hs args m:=by kernel_rfl
theorem xcn(d:Nat)(hs:FHs)(args:List AV)(m:Mem):xep (d+1) hs x1w args m=x9a (xep d) hs args m:=by kernel_rfl
theorem xco(d:Nat)(hs:FHs)(args:List AV)(m:Mem):xep (d+1) hs xz args m=x9b (xep d) hs args m:=by kernel_rfl
end Go.Ix
