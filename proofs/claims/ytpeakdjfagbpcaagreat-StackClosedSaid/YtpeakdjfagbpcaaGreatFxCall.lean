import Derived.Test.YtpeakdjfagbpcaaGreatFxText0
import Derived.Test.YtpeakdjfagbpcaaGreatFxText1
import Derived.Test.YtpeakdjfagbpcaaGreatFxEnt
import Derived.Test.YtpeakdjfagbpcaaGreatFxRules
namespace Go.Ix
open Go.Proofs
noncomputable def table:List (FuncId×FnT):=[(xal,x19u),(x2k,x19v),(xam,x19w),(x4n,x19x),(xan,x19y),(xao,x19z),(xap,x1a0),(xaq,x1a1),(xar,x1a2),(xas,x1a3),(x4o,xf7),(xat,x1a4),(xf8,x1a5),(xf9,x1a6),(xfa,x1a7),(x7i,xfb),(x2l,x1a8),(x34,xfc),(x2m,xfd),(x1a,xau),(x2n,xfe),(xm,xff),(xav,x1a9),(x2o,x1aa),(xaw,x1ab),(x35,xfg),(xax,x1ac),(xay,x1ad),(x4p,xfh),(xfi,x1ae),(x36,xfj),(x1s,x7j),(x4q,xfk),(xfl,x1af),(xaz,x1ag),(xb0,x1ah),(x4r,xfm),(xb1,x1ai),(xb2,x1aj),(x4s,xfn),(x4t,xfo),(xb3,x1ak),(xb4,x1al),(xfp,x1am),(x7k,x1an),(x4u,x1ao),(x4v,xfq),(x66,xfr),(x2p,xfs),(xb5,x1ap),(x7l,x1aq),(x67,x1ar),(x1t,xft),(xy,xfu),(x1u,xfv),(x37,xfw),(x4w,xfx),(xb6,x1as),(x7m,x1at),(x38,xfy),(x1i,xfz),(x68,xg0),(x2q,xg1),(x2r,xg2),(x39,xg3),(xb7,x1au),(xb8,x1av),(x7n,x1aw),(x69,xg4),(x3a,x1ax),(x1e,xg5),(x7o,x1ay),(xb9,x1az),(xg6,x1b0),(xba,x1b1),(x4x,xg7),(x4y,xg8),(x3b,xg9),(x4z,xga),(xbb,x1b2),(x7p,x1b3),(x50,xgb),(x6a,x1b4),(x3c,xgc),(xgd,x1b5),(x6b,xge),(x51,xgf),(x52,xgg),(xbc,x1b6),(x1f,xgh),(x6c,xgi),(x6d,xgj),(x6e,xgk),(xt,xgl),(x6f,xgm),(xbd,x1b7),(x3d,xgn),(xbe,x1b8),(x6g,x1b9),(xbf,x1ba),(x7q,x1bb),(xbg,x1bc),(x6h,xgo),(x53,xgp),(x6i,xgq),(xbh,x1bd),(x3e,xgr),(x6j,xgs),(xbi,x1be),(xbj,x1bf),(xbk,x1bg),(x7r,x1bh),(xbl,x1bi),(xbm,x1bj),(xbn,x1bk),(x7s,xgt),(x54,xgu),(x55,xgv),(xbo,x1bl),(xbp,x1bm),(x7t,x1bn),(x56,xgw),(x57,x1bo),(x6k,xgx),(xbq,x1bp),(xbr,x1bq),(xbs,x1br),(xbt,x1bs),(xbu,x1bt),(xf,xgy),(xbv,x1bu),(xbw,x1bv),(xbx,x1bw),(x6l,xgz),(xby,x1bx),(xbz,x1by),(x7u,x1bz),(xc0,x1c0),(xc1,x1c1),(x6m,x1c2),(x7v,x1c3),(x58,xh0),(xc2,x1c4),(x6n,x1c5),(x6o,x1c6)]
noncomputable def x2f7:Nat->x2f5
 |0=>fun _ _ _ _=>none
 |d+1=>fun hs f args m=>look f table (x2f7 d) hs args m
theorem x1c7(d:Nat)(hs:FHs)(args:List AV)(m:Mem):x2f7 (d+1) hs x7i args m=xfb (x2f7 d) hs args m:=by kernel_rfl
theorem x1c8(d:Nat)(hs:FHs)(args:List AV)(m:Mem):x2f7 (d+1) hs x34 args m=xfc (x2f7 d) hs args m:=by kernel_rfl
theorem x1c9(d:Nat)(hs:FHs)(args:List AV)(m:Mem):x2f7 (d+1) hs x2m args m=xfd (x2f7 d) hs args m:=by kernel_rfl
theorem xq3(d:Nat)(hs:FHs)(args:List AV)(m:Mem):x2f7 (d+1) hs x1a args m=xau (x2f7 d) hs args m:=by kernel_rfl
theorem x1ca(d:Nat)(hs:FHs)(args:List AV)(m:Mem):x2f7 (d+1) hs x2n args m=xfe (x2f7 d) hs args m:=by kernel_rfl
theorem x1cb(d:Nat)(hs:FHs)(args:List AV)(m:Mem):x2f7 (d+1) hs xm args m=xff (x2f7 d) hs args m:=by kernel_rfl
theorem x1cc(d:Nat)(hs:FHs)(args:List AV)(m:Mem):x2f7 (d+1) hs x35 args m=xfg (x2f7 d) hs args m:=by kernel_rfl
theorem x1cd(d:Nat)(hs:FHs)(args:List AV)(m:Mem):x2f7 (d+1) hs x4p args m=xfh (x2f7 d) hs args m:=by kernel_rfl
theorem x1ce(d:Nat)(hs:FHs)(args:List AV)(m:Mem):x2f7 (d+1) hs x36 args m=xfj (x2f7 d) hs args m:=by kernel_rfl
theorem xh1(d:Nat)(hs:FHs)(args:List AV)(m:Mem):x2f7 (d+1) hs x1s args m=x7j (x2f7 d) hs args m:=by kernel_rfl
theorem x1cf(d:Nat)(hs:FHs)(args:List AV)(m:Mem):x2f7 (d+1) hs x4q args m=xfk (x2f7 d) hs args m:=by kernel_rfl
theorem x1cg(d:Nat)(hs:FHs)(args:List AV)(m:Mem):x2f7 (d+1) hs x4r args m=xfm (x2f7 d) hs args m:=by kernel_rfl
theorem x1ch(d:Nat)(hs:FHs)(args:List AV)(m:Mem):x2f7 (d+1) hs x4s args m=xfn (x2f7 d) hs args m:=by kernel_rfl
theorem x1ci(d:Nat)(hs:FHs)(args:List AV)(m:Mem):x2f7 (d+1) hs x4t args m=xfo (x2f7 d) hs args m:=by kernel_rfl
theorem x1cj(d:Nat)(hs:FHs)(args:List AV)(m:Mem):x2f7 (d+1) hs x4v args m=xfq (x2f7 d) hs args m:=by kernel_rfl
theorem x1ck(d:Nat)(hs:FHs)(args:List AV)(m:Mem):x2f7 (d+1) hs x66 args m=xfr (x2f7 d) hs args m:=by kernel_rfl
theorem x1cl(d:Nat)(hs:FHs)(args:List AV)(m:Mem):x2f7 (d+1) hs x2p args m=xfs (x2f7 d) hs args m:=by kernel_rfl
theorem x1cm(d:Nat)(hs:FHs)(args:List AV)(m:Mem):x2f7 (d+1) hs x1t args m=xft (x2f7 d) hs args m:=by kernel_rfl
theorem x1cn(d:Nat)(hs:FHs)(args:List AV)(m:Mem):x2f7 (d+1) hs xy args m=xfu (x2f7 d) hs args m:=by kernel_rfl
theorem x1co(d:Nat)(hs:FHs)(args:List AV)(m:Mem):x2f7 (d+1) hs x1u args m=xfv (x2f7 d) hs args m:=by kernel_rfl
theorem x1cp(d:Nat)(hs:FHs)(args:List AV)(m:Mem):x2f7 (d+1) hs x37 args m=xfw (x2f7 d) hs args m:=by kernel_rfl
theorem x1cq(d:Nat)(hs:FHs)(args:List AV)(m:Mem):x2f7 (d+1) hs x4w args m=xfx (x2f7 d) hs args m:=by kernel_rfl
theorem x1cr(d:Nat)(hs:FHs)(args:List AV)(m:Mem):x2f7 (d+1) hs x38 args m=xfy (x2f7 d) hs args m:=by kernel_rfl
theorem x1cs(d:Nat)(hs:FHs)(args:List AV)(m:Mem):x2f7 (d+1) hs x1i args m=xfz (x2f7 d) hs args m:=by kernel_rfl
theorem x1ct(d:Nat)(hs:FHs)(args:List AV)(m:Mem):x2f7 (d+1) hs x68 args m=xg0 (x2f7 d) hs args m:=by kernel_rfl
theorem x1cu(d:Nat)(hs:FHs)(args:List AV)(m:Mem):x2f7 (d+1) hs x2q args m=xg1 (x2f7 d) hs args m:=by kernel_rfl
theorem x1cv(d:Nat)(hs:FHs)(args:List AV)(m:Mem):x2f7 (d+1) hs x2r args m=xg2 (x2f7 d) hs args m:=by kernel_rfl
theorem x1cw(d:Nat)(hs:FHs)(args:List AV)(m:Mem):x2f7 (d+1) hs x39 args m=xg3 (x2f7 d) hs args m:=by kernel_rfl
theorem x1cx(d:Nat)(hs:FHs)(args:List AV)(m:Mem):x2f7 (d+1) hs x69 args m=xg4 (x2f7 d) hs args m:=by kernel_rfl
theorem x1cy(d:Nat)(hs:FHs)(args:List AV)(m:Mem):x2f7 (d+1) hs x1e args m=xg5 (x2f7 d) hs args m:=by kernel_rfl
theorem x1cz(d:Nat)(hs:FHs)(args:List AV)(m:Mem):x2f7 (d+1) hs x4x args m=xg7 (x2f7 d) hs args m:=by kernel_rfl
theorem x1d0(d:Nat)(hs:FHs)(args:List AV)(m:Mem):x2f7 (d+1) hs x4y args m=xg8 (x2f7 d) hs args m:=by kernel_rfl
theorem x1d1(d:Nat)(hs:FHs)(args:List AV)(m:Mem):x2f7 (d+1) hs x3b args m=xg9 (x2f7 d) hs args m:=by kernel_rfl
theorem x1d2(d:Nat)(hs:FHs)(args:List AV)(m:Mem):x2f7 (d+1) hs x4z args m=xga (x2f7 d) hs args m:=by kernel_rfl
theorem x1d3(d:Nat)(hs:FHs)(args:List AV)(m:Mem):x2f7 (d+1) hs x50 args m=xgb (x2f7 d) hs args m:=by kernel_rfl
theorem x1d4(d:Nat)(hs:FHs)(args:List AV)(m:Mem):x2f7 (d+1) hs x3c args m=xgc (x2f7 d) hs args m:=by kernel_rfl
theorem x1d5(d:Nat)(hs:FHs)(args:List AV)(m:Mem):x2f7 (d+1) hs x6b args m=xge (x2f7 d) hs args m:=by kernel_rfl
theorem x1d6(d:Nat)(hs:FHs)(args:List AV)(m:Mem):x2f7 (d+1) hs x51 args m=xgf (x2f7 d) hs args m:=by kernel_rfl
theorem x1d7(d:Nat)(hs:FHs)(args:List AV)(m:Mem):x2f7 (d+1) hs x52 args m=xgg (x2f7 d) hs args m:=by kernel_rfl
theorem x1d8(d:Nat)(hs:FHs)(args:List AV)(m:Mem):x2f7 (d+1) hs x1f args m=xgh (x2f7 d) hs args m:=by kernel_rfl
theorem x1d9(d:Nat)(hs:FHs)(args:List AV)(m:Mem):x2f7 (d+1) hs x6c args m=xgi (x2f7 d) hs args m:=by kernel_rfl
theorem x1da(d:Nat)(hs:FHs)(args:List AV)(m:Mem):x2f7 (d+1) hs x6d args m=xgj (x2f7 d) hs args m:=by kernel_rfl
theorem x1db(d:Nat)(hs:FHs)(args:List AV)(m:Mem):x2f7 (d+1) hs x6e args m=xgk (x2f7 d) hs args m:=by kernel_rfl
theorem x1dc(d:Nat)(hs:FHs)(args:List AV)(m:Mem):x2f7 (d+1) hs xt args m=xgl (x2f7 d) hs args m:=by kernel_rfl
theorem x1dd(d:Nat)(hs:FHs)(args:List AV)(m:Mem):x2f7 (d+1) hs x6f args m=xgm (x2f7 d) hs args m:=by kernel_rfl
theorem x1de(d:Nat)(hs:FHs)(args:List AV)(m:Mem):x2f7 (d+1) hs x3d args m=xgn (x2f7 d) hs args m:=by kernel_rfl
theorem x1df(d:Nat)(hs:FHs)(args:List AV)(m:Mem):x2f7 (d+1) hs x4o args m=xf7 (x2f7 d) hs args m:=by kernel_rfl
theorem x1dg(d:Nat)(hs:FHs)(args:List AV)(m:Mem):x2f7 (d+1) hs x6h args m=xgo (x2f7 d) hs args m:=by kernel_rfl
theorem x1dh(d:Nat)(hs:FHs)(args:List AV)(m:Mem):x2f7 (d+1) hs x53 args m=xgp (x2f7 d) hs args m:=by kernel_rfl
theorem x1di(d:Nat)(hs:FHs)(args:List AV)(m:Mem):x2f7 (d+1) hs x6i args m=xgq (x2f7 d) hs args m:=by kernel_rfl
theorem x1dj(d:Nat)(hs:FHs)(args:List AV)(m:Mem):x2f7 (d+1) hs x3e args m=xgr (x2f7 d) hs args m:=by kernel_rfl
theorem x1dk(d:Nat)(hs:FHs)(args:List AV)(m:Mem):x2f7 (d+1) hs x6j args m=xgs (x2f7 d) hs args m:=by kernel_rfl
theorem x1dl(d:Nat)(hs:FHs)(args:List AV)(m:Mem):x2f7 (d+1) hs x7s args m=xgt (x2f7 d) hs args m:=by kernel_rfl
theorem x1dm(d:Nat)(hs:FHs)(args:List AV)(m:Mem):x2f7 (d+1) hs x54 args m=xgu (x2f7 d) hs args m:=by kernel_rfl
theorem x1dn(d:Nat)(hs:FHs)(args:List AV)(m:Mem):x2f7 (d+1) hs x55 args m=xgv (x2f7 d) hs args m:=by kernel_rfl
theorem x1do(d:Nat)(hs:FHs)(args:List AV)(m:Mem):x2f7 (d+1) hs x56 args m=xgw (x2f7 d) hs args m:=by kernel_rfl
theorem x1dp(d:Nat)(hs:FHs)(args:List AV)(m:Mem):x2f7 (d+1) hs x6k args m=xgx (x2f7 d) hs args m:=by kernel_rfl
theorem x1dq(d:Nat)(hs:FHs)(args:List AV)(m:Mem):x2f7 (d+1) hs xf args m=xgy (x2f7 d) hs args m:=by kernel_rfl
theorem x1dr(d:Nat)(hs:FHs)(args:List AV)(m:Mem):x2f7 (d+1) hs x6l args m=xgz (x2f7 d) hs args m:=by kernel_rfl
theorem x1ds(d:Nat)(hs:FHs)(args:List AV)(m:Mem):x2f7 (d+1) hs x58 args m=xh0 (x2f7 d) hs args m:=by kernel_rfl
end Go.Ix
