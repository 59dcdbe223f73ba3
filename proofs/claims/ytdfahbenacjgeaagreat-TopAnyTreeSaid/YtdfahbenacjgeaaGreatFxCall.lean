import Derived.Test.YtdfahbenacjgeaaGreatFxText0
import Derived.Test.YtdfahbenacjgeaaGreatFxEnt
import Derived.Test.YtdfahbenacjgeaaGreatFxRules
namespace Go.Ix
open Go.Proofs
noncomputable def table:List (FuncId×FnT):=[(x2i,x93),(x4c,x94),(x1a,x95),(xt,x96),(xu,x97),(x1b,x98),(xe,x99),(x1c,x9a),(xc,x4d),(x1d,x9b),(xi,x4y),(x1e,x9c),(x2j,x9d),(x9,x9e),(xj,x9f),(x1f,x9g),(x2k,x9h),(xa,x9i),(x1g,x9j),(xv,x9k),(xw,x9l),(xk,x9m),(x1h,x9n),(xl,x9o),(xm,x9p),(x1i,x9q),(xx,x9r),(x2l,x9s),(xd,x9t),(xn,x9u),(x2m,x9v),(x2n,x9w),(x1j,x9x),(xo,x9y),(x1k,x9z),(xy,xa0),(x2o,xa1),(x1l,xa2),(x1m,xa3),(xp,xa4),(x1n,xa5),(x1o,xa6),(x1p,xa7),(xf,xa8),(x2p,xa9),(x2q,xaa),(x2r,xab),(xz,xac),(x1q,xad),(x2s,xae),(x2t,xaf),(x2u,xag),(x1r,xah),(x2v,xai),(x2w,xaj),(x1s,xak),(x2x,xal),(xq,xam),(x1t,xan),(x1u,xao),(x1v,xap),(x1w,xaq),(x4e,xar),(x1x,xas),(x2y,xat),(x2z,xau),(x30,xav),(x8,xaw),(x31,xax),(x10,xf3),(x1y,xay),(x32,xaz),(x1z,xb0),(x33,xb1),(x34,xb2),(x20,xb3)]
noncomputable def whole(f:FuncId):FnT:=λcall hs args m=>xnx Tryz.prog pol NN call hs f args m
noncomputable def xk2:Nat->xk3
 |0=>λ_ _ _ _=>none
 |d+1=>λhs f args m=>look (whole f) f table (xk2 d) hs args m
theorem xfj(d:Nat)(hs:FHs)(args:List AV)(m:Mem):xk2 (d+1) hs x4c args m=x94 (xk2 d) hs args m:=by kernel_rfl
theorem xfk(d:Nat)(hs:FHs)(args:List AV)(m:Mem):xk2 (d+1) hs x1a args m=x95 (xk2 d) hs args m:=by kernel_rfl
theorem xfl(d:Nat)(hs:FHs)(args:List AV)(m:Mem):xk2 (d+1) hs xt args m=x96 (xk2 d) hs args m:=by kernel_rfl
theorem xfm(d:Nat)(hs:FHs)(args:List AV)(m:Mem):xk2 (d+1) hs xu args m=x97 (xk2 d) hs args m:=by kernel_rfl
theorem xfn(d:Nat)(hs:FHs)(args:List AV)(m:Mem):xk2 (d+1) hs x1b args m=x98 (xk2 d) hs args m:=by kernel_rfl
theorem xfo(d:Nat)(hs:FHs)(args:List AV)(m:Mem):xk2 (d+1) hs xe args m=x99 (xk2 d) hs args m:=by kernel_rfl
theorem xfp(d:Nat)(hs:FHs)(args:List AV)(m:Mem):xk2 (d+1) hs x1c args m=x9a (xk2 d) hs args m:=by kernel_rfl
theorem xb4(d:Nat)(hs:FHs)(args:List AV)(m:Mem):xk2 (d+1) hs xc args m=x4d (xk2 d) hs args m:=by kernel_rfl
theorem xfq(d:Nat)(hs:FHs)(args:List AV)(m:Mem):xk2 (d+1) hs x1d args m=x9b (xk2 d) hs args m:=by kernel_rfl
theorem xf4(d:Nat)(hs:FHs)(args:List AV)(m:Mem):xk2 (d+1) hs xi args m=x4y (xk2 d) hs args m:=by kernel_rfl
theorem xfr(d:Nat)(hs:FHs)(args:List AV)(m:Mem):xk2 (d+1) hs x1e args m=x9c (xk2 d) hs args m:=by kernel_rfl
theorem xfs(d:Nat)(hs:FHs)(args:List AV)(m:Mem):xk2 (d+1) hs x2j args m=x9d (xk2 d) hs args m:=by kernel_rfl
theorem xft(d:Nat)(hs:FHs)(args:List AV)(m:Mem):xk2 (d+1) hs x9 args m=x9e (xk2 d) hs args m:=by kernel_rfl
theorem xfu(d:Nat)(hs:FHs)(args:List AV)(m:Mem):xk2 (d+1) hs xj args m=x9f (xk2 d) hs args m:=by kernel_rfl
theorem xfv(d:Nat)(hs:FHs)(args:List AV)(m:Mem):xk2 (d+1) hs x1f args m=x9g (xk2 d) hs args m:=by kernel_rfl
theorem xfw(d:Nat)(hs:FHs)(args:List AV)(m:Mem):xk2 (d+1) hs x2k args m=x9h (xk2 d) hs args m:=by kernel_rfl
theorem xfx(d:Nat)(hs:FHs)(args:List AV)(m:Mem):xk2 (d+1) hs xa args m=x9i (xk2 d) hs args m:=by kernel_rfl
theorem xfy(d:Nat)(hs:FHs)(args:List AV)(m:Mem):xk2 (d+1) hs x1g args m=x9j (xk2 d) hs args m:=by kernel_rfl
theorem xfz(d:Nat)(hs:FHs)(args:List AV)(m:Mem):xk2 (d+1) hs xv args m=x9k (xk2 d) hs args m:=by kernel_rfl
theorem xg0(d:Nat)(hs:FHs)(args:List AV)(m:Mem):xk2 (d+1) hs xw args m=x9l (xk2 d) hs args m:=by kernel_rfl
theorem xg1(d:Nat)(hs:FHs)(args:List AV)(m:Mem):xk2 (d+1) hs xk args m=x9m (xk2 d) hs args m:=by kernel_rfl
theorem xg2(d:Nat)(hs:FHs)(args:List AV)(m:Mem):xk2 (d+1) hs x1h args m=x9n (xk2 d) hs args m:=by kernel_rfl
theorem xg3(d:Nat)(hs:FHs)(args:List AV)(m:Mem):xk2 (d+1) hs xl args m=x9o (xk2 d) hs args m:=by kernel_rfl
theorem xg4(d:Nat)(hs:FHs)(args:List AV)(m:Mem):xk2 (d+1) hs xm args m=x9p (xk2 d) hs args m:=by kernel_rfl
theorem xg5(d:Nat)(hs:FHs)(args:List AV)(m:Mem):xk2 (d+1) hs x1i args m=x9q (xk2 d) hs args m:=by kernel_rfl
theorem xg6(d:Nat)(hs:FHs)(args:List AV)(m:Mem):xk2 (d+1) hs xx args m=x9r (xk2 d) hs args m:=by kernel_rfl
theorem xg7(d:Nat)(hs:FHs)(args:List AV)(m:Mem):xk2 (d+1) hs x2l args m=x9s (xk2 d) hs args m:=by kernel_rfl
theorem xg8(d:Nat)(hs:FHs)(args:List AV)(m:Mem):xk2 (d+1) hs xd args m=x9t (xk2 d) hs args m:=by kernel_rfl
theorem xg9(d:Nat)(hs:FHs)(args:List AV)(m:Mem):xk2 (d+1) hs xn args m=x9u (xk2 d) hs args m:=by kernel_rfl
theorem xga(d:Nat)(hs:FHs)(args:List AV)(m:Mem):xk2 (d+1) hs x2m args m=x9v (xk2 d) hs args m:=by kernel_rfl
theorem xgb(d:Nat)(hs:FHs)(args:List AV)(m:Mem):xk2 (d+1) hs x2n args m=x9w (xk2 d) hs args m:=by kernel_rfl
theorem xgc(d:Nat)(hs:FHs)(args:List AV)(m:Mem):xk2 (d+1) hs x1j args m=x9x (xk2 d) hs args m:=by kernel_rfl
theorem xgd(d:Nat)(hs:FHs)(args:List AV)(m:Mem):xk2 (d+1) hs xo args m=x9y (xk2 d) hs args m:=by kernel_rfl
theorem xge(d:Nat)(hs:FHs)(args:List AV)(m:Mem):xk2 (d+1) hs x1k args m=x9z (xk2 d) hs args m:=by kernel_rfl
theorem xgf(d:Nat)(hs:FHs)(args:List AV)(m:Mem):xk2 (d+1) hs xy args m=xa0 (xk2 d) hs args m:=by kernel_rfl
theorem xgg(d:Nat)(hs:FHs)(args:List AV)(m:Mem):xk2 (d+1) hs x2o args m=xa1 (xk2 d) hs args m:=by kernel_rfl
theorem xgh(d:Nat)(hs:FHs)(args:List AV)(m:Mem):xk2 (d+1) hs x1l args m=xa2 (xk2 d) hs args m:=by kernel_rfl
theorem xgi(d:Nat)(hs:FHs)(args:List AV)(m:Mem):xk2 (d+1) hs x1m args m=xa3 (xk2 d) hs args m:=by kernel_rfl
theorem xgj(d:Nat)(hs:FHs)(args:List AV)(m:Mem):xk2 (d+1) hs xp args m=xa4 (xk2 d) hs args m:=by kernel_rfl
theorem xgk(d:Nat)(hs:FHs)(args:List AV)(m:Mem):xk2 (d+1) hs x1n args m=xa5 (xk2 d) hs args m:=by kernel_rfl
theorem xgl(d:Nat)(hs:FHs)(args:List AV)(m:Mem):xk2 (d+1) hs x1o args m=xa6 (xk2 d) hs args m:=by kernel_rfl
theorem xgm(d:Nat)(hs:FHs)(args:List AV)(m:Mem):xk2 (d+1) hs x1p args m=xa7 (xk2 d) hs args m:=by kernel_rfl
theorem xgn(d:Nat)(hs:FHs)(args:List AV)(m:Mem):xk2 (d+1) hs xf args m=xa8 (xk2 d) hs args m:=by kernel_rfl
theorem xgo(d:Nat)(hs:FHs)(args:List AV)(m:Mem):xk2 (d+1) hs x2p args m=xa9 (xk2 d) hs args m:=by kernel_rfl
theorem xgp(d:Nat)(hs:FHs)(args:List AV)(m:Mem):xk2 (d+1) hs x2q args m=xaa (xk2 d) hs args m:=by kernel_rfl
theorem xgq(d:Nat)(hs:FHs)(args:List AV)(m:Mem):xk2 (d+1) hs x2r args m=xab (xk2 d) hs args m:=by kernel_rfl
theorem xgr(d:Nat)(hs:FHs)(args:List AV)(m:Mem):xk2 (d+1) hs xz args m=xac (xk2 d) hs args m:=by kernel_rfl
theorem xgs(d:Nat)(hs:FHs)(args:List AV)(m:Mem):xk2 (d+1) hs x1q args m=xad (xk2 d) hs args m:=by kernel_rfl
theorem xgt(d:Nat)(hs:FHs)(args:List AV)(m:Mem):xk2 (d+1) hs x2i args m=x93 (xk2 d) hs args m:=by kernel_rfl
theorem xgu(d:Nat)(hs:FHs)(args:List AV)(m:Mem):xk2 (d+1) hs x2s args m=xae (xk2 d) hs args m:=by kernel_rfl
theorem xgv(d:Nat)(hs:FHs)(args:List AV)(m:Mem):xk2 (d+1) hs x2t args m=xaf (xk2 d) hs args m:=by kernel_rfl
theorem xgw(d:Nat)(hs:FHs)(args:List AV)(m:Mem):xk2 (d+1) hs x2u args m=xag (xk2 d) hs args m:=by kernel_rfl
theorem xgx(d:Nat)(hs:FHs)(args:List AV)(m:Mem):xk2 (d+1) hs x1r args m=xah (xk2 d) hs args m:=by kernel_rfl
theorem xgy(d:Nat)(hs:FHs)(args:List AV)(m:Mem):xk2 (d+1) hs x2v args m=xai (xk2 d) hs args m:=by kernel_rfl
theorem xgz(d:Nat)(hs:FHs)(args:List AV)(m:Mem):xk2 (d+1) hs x2w args m=xaj (xk2 d) hs args m:=by kernel_rfl
theorem xh0(d:Nat)(hs:FHs)(args:List AV)(m:Mem):xk2 (d+1) hs x1s args m=xak (xk2 d) hs args m:=by kernel_rfl
theorem xh1(d:Nat)(hs:FHs)(args:List AV)(m:Mem):xk2 (d+1) hs x2x args m=xal (xk2 d) hs args m:=by kernel_rfl
theorem xh2(d:Nat)(hs:FHs)(args:List AV)(m:Mem):xk2 (d+1) hs xq args m=xam (xk2 d) hs args m:=by kernel_rfl
theorem xh3(d:Nat)(hs:FHs)(args:List AV)(m:Mem):xk2 (d+1) hs x1t args m=xan (xk2 d) hs args m:=by kernel_rfl
theorem xh4(d:Nat)(hs:FHs)(args:List AV)(m:Mem):xk2 (d+1) hs x1u args m=xao (xk2 d) hs args m:=by kernel_rfl
theorem xh5(d:Nat)(hs:FHs)(args:List AV)(m:Mem):xk2 (d+1) hs x1v args m=xap (xk2 d) hs args m:=by kernel_rfl
theorem xh6(d:Nat)(hs:FHs)(args:List AV)(m:Mem):xk2 (d+1) hs x1w args m=xaq (xk2 d) hs args m:=by kernel_rfl
theorem xh7(d:Nat)(hs:FHs)(args:List AV)(m:Mem):xk2 (d+1) hs x4e args m=xar (xk2 d) hs args m:=by kernel_rfl
theorem xh8(d:Nat)(hs:FHs)(args:List AV)(m:Mem):xk2 (d+1) hs x1x args m=xas (xk2 d) hs args m:=by kernel_rfl
theorem xh9(d:Nat)(hs:FHs)(args:List AV)(m:Mem):xk2 (d+1) hs x2y args m=xat (xk2 d) hs args m:=by kernel_rfl
theorem xha(d:Nat)(hs:FHs)(args:List AV)(m:Mem):xk2 (d+1) hs x2z args m=xau (xk2 d) hs args m:=by kernel_rfl
theorem xhb(d:Nat)(hs:FHs)(args:List AV)(m:Mem):xk2 (d+1) hs x30 args m=xav (xk2 d) hs args m:=by kernel_rfl
theorem xhc(d:Nat)(hs:FHs)(args:List AV)(m:Mem):xk2 (d+1) hs x8 args m=xaw (xk2 d) hs args m:=by kernel_rfl
theorem xhd(d:Nat)(hs:FHs)(args:List AV)(m:Mem):xk2 (d+1) hs x31 args m=xax (xk2 d) hs args m:=by kernel_rfl
theorem xhe(d:Nat)(hs:FHs)(args:List AV)(m:Mem):xk2 (d+1) hs x10 args m=xf3 (xk2 d) hs args m:=by kernel_rfl
theorem xhf(d:Nat)(hs:FHs)(args:List AV)(m:Mem):xk2 (d+1) hs x1y args m=xay (xk2 d) hs args m:=by kernel_rfl
theorem xhg(d:Nat)(hs:FHs)(args:List AV)(m:Mem):xk2 (d+1) hs x32 args m=xaz (xk2 d) hs args m:=by kernel_rfl
theorem xhh(d:Nat)(hs:FHs)(args:List AV)(m:Mem):xk2 (d+1) hs x1z args m=xb0 (xk2 d) hs args m:=by kernel_rfl
theorem xhi(d:Nat)(hs:FHs)(args:List AV)(m:Mem):xk2 (d+1) hs x33 args m=xb1 (xk2 d) hs args m:=by kernel_rfl
theorem xhj(d:Nat)(hs:FHs)(args:List AV)(m:Mem):xk2 (d+1) hs x34 args m=xb2 (xk2 d) hs args m:=by kernel_rfl
theorem xhk(d:Nat)(hs:FHs)(args:List AV)(m:Mem):xk2 (d+1) hs x20 args m=xb3 (xk2 d) hs args m:=by kernel_rfl
end Go.Ix
