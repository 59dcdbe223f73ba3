import Derived.Test.YtpeakdjfagbpcaaGreatFxText0
import Derived.Test.YtpeakdjfagbpcaaGreatFxText1
import Derived.Test.YtpeakdjfagbpcaaGreatFxEnt
import Derived.Test.YtpeakdjfagbpcaaGreatFxRules
namespace Go.Ix
open Go.Proofs
noncomputable def table:List (FuncId×FnT):=[(xa8,x1a0),(x2m,x1a1),(xa9,x1a2),(x4b,x1a3),(xaa,x1a4),(xab,x1a5),(xac,x1a6),(xad,x1a7),(xae,x1a8),(xaf,x1a9),(x6x,x1aa),(xag,x1ab),(xep,x1ac),(xeq,x1ad),(xer,x1ae),(xes,x1af),(x6y,xet),(x1p,x1ag),(xah,x1ah),(x6z,x1ai),(xai,x1aj),(x70,x1ak),(xm,xeu),(xaj,x1al),(x1g,x1am),(xak,x1an),(x34,xev),(xal,x1ao),(xam,x1ap),(x2n,xew),(x2o,xex),(x12,xey),(x1q,xan),(x2p,xez),(xao,x1aq),(xap,x1ar),(xaq,x1as),(x4c,xp9),(x35,xf0),(xar,x1at),(x71,x1au),(xas,x1av),(xf1,x1aw),(xf2,x1ax),(x36,xf3),(xf4,x1ay),(x72,x1az),(x4d,x1b0),(x73,x1b1),(xat,x1b2),(x74,x1b3),(x5p,x1b4),(x37,x1b5),(xx,xf5),(x75,x1b6),(x76,x1b7),(x2q,xf6),(xau,x1b8),(x77,x1b9),(x38,xf7),(x1r,xf8),(x5q,xf9),(x1h,xfa),(x2r,xfb),(x2s,xfc),(x4e,xfd),(x39,xfe),(x4f,xff),(x5r,xfg),(x2t,x1ba),(x4g,x1bb),(x78,x1bc),(xav,x1bd),(xfh,x1be),(xaw,x1bf),(xfi,x1bg),(x4h,xfj),(x4i,xfk),(xax,x1bh),(x5s,x1bi),(x79,x1bj),(x5t,x1bk),(x3a,xfl),(xfm,x1bl),(xay,x1bm),(xaz,x1bn),(xb0,x1bo),(x4j,x1bp),(xb1,x1bq),(x5u,xfn),(x5v,xfo),(xt,xfp),(x5w,xfq),(x5x,xfr),(x3b,xfs),(xb2,x1br),(x5y,x1bs),(xb3,x1bt),(x7a,x1bu),(xb4,x1bv),(x5z,xft),(x4k,xfu),(x60,xfv),(xb5,x1bw),(xb6,x1bx),(x61,xfw),(xb7,x1by),(xb8,x1bz),(xb9,x1c0),(x7b,x1c1),(xba,x1c2),(xbb,x1c3),(xbc,x1c4),(x7c,xfx),(x4l,xfy),(x4m,xfz),(xbd,x1c5),(xbe,x1c6),(x7d,x1c7),(x4n,xg0),(x4o,x1c8),(x62,xg1),(xbf,x1c9),(xbg,x1ca),(xbh,x1cb),(xbi,x1cc),(xbj,x1cd),(xf,xg2),(xbk,x1ce),(xbl,x1cf),(xbm,x1cg),(x63,xg3),(xbn,x1ch),(xbo,x1ci),(x7e,x1cj),(xbp,x1ck),(xbq,x1cl),(x64,x1cm),(x7f,x1cn),(x4p,xg4),(xbr,x1co),(x65,x1cp),(x66,x1cq)]
noncomputable def x2g5:Nat->x2g1
 |0=>fun _ _ _ _=>none
 |d+1=>fun hs f args m=>look f table (x2g5 d) hs args m
theorem x1cr(d:Nat)(hs:FHs)(args:List AV)(m:Mem):x2g5 (d+1) hs x6y args m=xet (x2g5 d) hs args m:=by kernel_rfl
theorem x1cs(d:Nat)(hs:FHs)(args:List AV)(m:Mem):x2g5 (d+1) hs xm args m=xeu (x2g5 d) hs args m:=by kernel_rfl
theorem x1ct(d:Nat)(hs:FHs)(args:List AV)(m:Mem):x2g5 (d+1) hs x34 args m=xev (x2g5 d) hs args m:=by kernel_rfl
theorem x1cu(d:Nat)(hs:FHs)(args:List AV)(m:Mem):x2g5 (d+1) hs x2n args m=xew (x2g5 d) hs args m:=by kernel_rfl
theorem x1cv(d:Nat)(hs:FHs)(args:List AV)(m:Mem):x2g5 (d+1) hs x2o args m=xex (x2g5 d) hs args m:=by kernel_rfl
theorem x1cw(d:Nat)(hs:FHs)(args:List AV)(m:Mem):x2g5 (d+1) hs x12 args m=xey (x2g5 d) hs args m:=by kernel_rfl
theorem xpa(d:Nat)(hs:FHs)(args:List AV)(m:Mem):x2g5 (d+1) hs x1q args m=xan (x2g5 d) hs args m:=by kernel_rfl
theorem x1cx(d:Nat)(hs:FHs)(args:List AV)(m:Mem):x2g5 (d+1) hs x2p args m=xez (x2g5 d) hs args m:=by kernel_rfl
theorem x1cy(d:Nat)(hs:FHs)(args:List AV)(m:Mem):x2g5 (d+1) hs x4c args m=xp9 (x2g5 d) hs args m:=by kernel_rfl
theorem x1cz(d:Nat)(hs:FHs)(args:List AV)(m:Mem):x2g5 (d+1) hs x35 args m=xf0 (x2g5 d) hs args m:=by kernel_rfl
theorem x1d0(d:Nat)(hs:FHs)(args:List AV)(m:Mem):x2g5 (d+1) hs x36 args m=xf3 (x2g5 d) hs args m:=by kernel_rfl
theorem x1d1(d:Nat)(hs:FHs)(args:List AV)(m:Mem):x2g5 (d+1) hs xx args m=xf5 (x2g5 d) hs args m:=by kernel_rfl
theorem x1d2(d:Nat)(hs:FHs)(args:List AV)(m:Mem):x2g5 (d+1) hs x2q args m=xf6 (x2g5 d) hs args m:=by kernel_rfl
theorem x1d3(d:Nat)(hs:FHs)(args:List AV)(m:Mem):x2g5 (d+1) hs x38 args m=xf7 (x2g5 d) hs args m:=by kernel_rfl
theorem x1d4(d:Nat)(hs:FHs)(args:List AV)(m:Mem):x2g5 (d+1) hs x1r args m=xf8 (x2g5 d) hs args m:=by kernel_rfl
theorem x1d5(d:Nat)(hs:FHs)(args:List AV)(m:Mem):x2g5 (d+1) hs x5q args m=xf9 (x2g5 d) hs args m:=by kernel_rfl
theorem x1d6(d:Nat)(hs:FHs)(args:List AV)(m:Mem):x2g5 (d+1) hs x1h args m=xfa (x2g5 d) hs args m:=by kernel_rfl
theorem x1d7(d:Nat)(hs:FHs)(args:List AV)(m:Mem):x2g5 (d+1) hs x2r args m=xfb (x2g5 d) hs args m:=by kernel_rfl
theorem x1d8(d:Nat)(hs:FHs)(args:List AV)(m:Mem):x2g5 (d+1) hs x2s args m=xfc (x2g5 d) hs args m:=by kernel_rfl
theorem x1d9(d:Nat)(hs:FHs)(args:List AV)(m:Mem):x2g5 (d+1) hs x4e args m=xfd (x2g5 d) hs args m:=by kernel_rfl
theorem x1da(d:Nat)(hs:FHs)(args:List AV)(m:Mem):x2g5 (d+1) hs x39 args m=xfe (x2g5 d) hs args m:=by kernel_rfl
theorem x1db(d:Nat)(hs:FHs)(args:List AV)(m:Mem):x2g5 (d+1) hs x4f args m=xff (x2g5 d) hs args m:=by kernel_rfl
theorem x1dc(d:Nat)(hs:FHs)(args:List AV)(m:Mem):x2g5 (d+1) hs x5r args m=xfg (x2g5 d) hs args m:=by kernel_rfl
theorem x1dd(d:Nat)(hs:FHs)(args:List AV)(m:Mem):x2g5 (d+1) hs x4h args m=xfj (x2g5 d) hs args m:=by kernel_rfl
theorem x1de(d:Nat)(hs:FHs)(args:List AV)(m:Mem):x2g5 (d+1) hs x4i args m=xfk (x2g5 d) hs args m:=by kernel_rfl
theorem x1df(d:Nat)(hs:FHs)(args:List AV)(m:Mem):x2g5 (d+1) hs x3a args m=xfl (x2g5 d) hs args m:=by kernel_rfl
theorem x1dg(d:Nat)(hs:FHs)(args:List AV)(m:Mem):x2g5 (d+1) hs x5u args m=xfn (x2g5 d) hs args m:=by kernel_rfl
theorem x1dh(d:Nat)(hs:FHs)(args:List AV)(m:Mem):x2g5 (d+1) hs x5v args m=xfo (x2g5 d) hs args m:=by kernel_rfl
theorem x1di(d:Nat)(hs:FHs)(args:List AV)(m:Mem):x2g5 (d+1) hs xt args m=xfp (x2g5 d) hs args m:=by kernel_rfl
theorem x1dj(d:Nat)(hs:FHs)(args:List AV)(m:Mem):x2g5 (d+1) hs x5w args m=xfq (x2g5 d) hs args m:=by kernel_rfl
theorem x1dk(d:Nat)(hs:FHs)(args:List AV)(m:Mem):x2g5 (d+1) hs x5x args m=xfr (x2g5 d) hs args m:=by kernel_rfl
theorem x1dl(d:Nat)(hs:FHs)(args:List AV)(m:Mem):x2g5 (d+1) hs x3b args m=xfs (x2g5 d) hs args m:=by kernel_rfl
theorem x1dm(d:Nat)(hs:FHs)(args:List AV)(m:Mem):x2g5 (d+1) hs x5z args m=xft (x2g5 d) hs args m:=by kernel_rfl
theorem x1dn(d:Nat)(hs:FHs)(args:List AV)(m:Mem):x2g5 (d+1) hs x4k args m=xfu (x2g5 d) hs args m:=by kernel_rfl
theorem x1do(d:Nat)(hs:FHs)(args:List AV)(m:Mem):x2g5 (d+1) hs x60 args m=xfv (x2g5 d) hs args m:=by kernel_rfl
theorem x1dp(d:Nat)(hs:FHs)(args:List AV)(m:Mem):x2g5 (d+1) hs x61 args m=xfw (x2g5 d) hs args m:=by kernel_rfl
theorem x1dq(d:Nat)(hs:FHs)(args:List AV)(m:Mem):x2g5 (d+1) hs x7c args m=xfx (x2g5 d) hs args m:=by kernel_rfl
theorem x1dr(d:Nat)(hs:FHs)(args:List AV)(m:Mem):x2g5 (d+1) hs x4l args m=xfy (x2g5 d) hs args m:=by kernel_rfl
theorem x1ds(d:Nat)(hs:FHs)(args:List AV)(m:Mem):x2g5 (d+1) hs x4m args m=xfz (x2g5 d) hs args m:=by kernel_rfl
theorem x1dt(d:Nat)(hs:FHs)(args:List AV)(m:Mem):x2g5 (d+1) hs x4n args m=xg0 (x2g5 d) hs args m:=by kernel_rfl
theorem x1du(d:Nat)(hs:FHs)(args:List AV)(m:Mem):x2g5 (d+1) hs x62 args m=xg1 (x2g5 d) hs args m:=by kernel_rfl
theorem x1dv(d:Nat)(hs:FHs)(args:List AV)(m:Mem):x2g5 (d+1) hs xf args m=xg2 (x2g5 d) hs args m:=by kernel_rfl
theorem x1dw(d:Nat)(hs:FHs)(args:List AV)(m:Mem):x2g5 (d+1) hs x63 args m=xg3 (x2g5 d) hs args m:=by kernel_rfl
theorem x1dx(d:Nat)(hs:FHs)(args:List AV)(m:Mem):x2g5 (d+1) hs x4p args m=xg4 (x2g5 d) hs args m:=by kernel_rfl
end Go.Ix
