import Derived.Test.YtpeakdjfagbpcaaGreatFxText0
import Derived.Test.YtpeakdjfagbpcaaGreatFxText1
import Derived.Test.YtpeakdjfagbpcaaGreatFxEnt
import Derived.Test.YtpeakdjfagbpcaaGreatFxRules
namespace Go.Ix
open Go.Proofs
noncomputable def table:List (FuncId×FnT):=[(xao,x18m),(x2m,x18n),(xap,x18o),(x58,x18p),(xaq,x18q),(xar,x18r),(xas,x18s),(xat,x18t),(xau,x18u),(xav,x18v),(x59,xfm),(xaw,x18w),(x86,xfn),(xfo,x18x),(x5a,x18y),(x5b,xfp),(x36,xfq),(x5c,xfr),(x37,xfs),(xq,xft),(x5d,xfu),(x1j,xfv),(xax,x18z),(x38,xfw),(xay,x190),(xaz,x191),(x6o,xfx),(xfy,x192),(x5e,xfz),(x39,xg0),(x6p,xg1),(xg2,x193),(xb0,x194),(xb1,x195),(x3a,xq3),(x5f,xg3),(xg4,x196),(xg5,x197),(xb2,x198),(xg6,x199),(x3b,xg7),(x2n,xg8),(x5g,xg9),(x6q,xga),(x87,x19a),(x6r,x19b),(x1x,xgb),(xz,xgc),(x3c,xgd),(x3d,xge),(x5h,xgf),(x5i,xgg),(x3e,xgh),(x3f,xgi),(x1y,xgj),(x6s,xgk),(x2o,xgl),(x2p,xgm),(x3g,xgn),(xb3,x19c),(xb4,x19d),(x88,x19e),(x6t,xgo),(x1e,xgp),(x1z,xgq),(x89,x19f),(xb5,x19g),(xgr,x19h),(xb6,x19i),(xgs,x19j),(x5j,xgt),(x5k,xgu),(x5l,xgv),(x5m,xgw),(x3h,xgx),(x3i,xgy),(xgz,x19k),(x5n,xh0),(x5o,xh1),(x5p,xh2),(x1f,xh3),(x6u,xh4),(x6v,xh5),(x6w,xh6),(xv,xh7),(x6x,xh8),(xb7,x19l),(x3j,xh9),(xb8,x19m),(x6y,x19n),(xb9,x19o),(x8a,x19p),(xba,x19q),(x6z,xha),(x5q,xhb),(x70,xhc),(xbb,x19r),(x3k,xhd),(x71,xhe),(xbc,x19s),(xbd,x19t),(xbe,x19u),(x8b,x19v),(xbf,x19w),(xbg,x19x),(xbh,x19y),(x8c,xhf),(x5r,xhg),(x5s,xhh),(xbi,x19z),(xbj,x1a0),(x8d,x1a1),(x5t,xhi),(x5u,x1a2),(x72,xhj),(xbk,x1a3),(xbl,x1a4),(xbm,x1a5),(xbn,x1a6),(xbo,x1a7),(xi,xhk),(xbp,x1a8),(xbq,x1a9),(xbr,x1aa),(x73,xhl),(xbs,x1ab),(xbt,x1ac),(x8e,x1ad),(xbu,x1ae),(xbv,x1af),(x74,x1ag),(x8f,x1ah),(x5v,xhm),(xbw,x1ai),(x75,x1aj),(x76,x1ak)]
noncomputable def x2cl:Nat->x2cj
 |0=>fun _ _ _ _=>none
 |d+1=>fun hs f args m=>look f table (x2cl d) hs args m
theorem x1al(d:Nat)(hs:FHs)(args:List AV)(m:Mem):x2cl (d+1) hs x86 args m=xfn (x2cl d) hs args m:=by kernel_rfl
theorem x1am(d:Nat)(hs:FHs)(args:List AV)(m:Mem):x2cl (d+1) hs x5b args m=xfp (x2cl d) hs args m:=by kernel_rfl
theorem x1an(d:Nat)(hs:FHs)(args:List AV)(m:Mem):x2cl (d+1) hs x36 args m=xfq (x2cl d) hs args m:=by kernel_rfl
theorem x1ao(d:Nat)(hs:FHs)(args:List AV)(m:Mem):x2cl (d+1) hs x5c args m=xfr (x2cl d) hs args m:=by kernel_rfl
theorem x1ap(d:Nat)(hs:FHs)(args:List AV)(m:Mem):x2cl (d+1) hs x37 args m=xfs (x2cl d) hs args m:=by kernel_rfl
theorem x1aq(d:Nat)(hs:FHs)(args:List AV)(m:Mem):x2cl (d+1) hs xq args m=xft (x2cl d) hs args m:=by kernel_rfl
theorem x1ar(d:Nat)(hs:FHs)(args:List AV)(m:Mem):x2cl (d+1) hs x5d args m=xfu (x2cl d) hs args m:=by kernel_rfl
theorem x1as(d:Nat)(hs:FHs)(args:List AV)(m:Mem):x2cl (d+1) hs x1j args m=xfv (x2cl d) hs args m:=by kernel_rfl
theorem x1at(d:Nat)(hs:FHs)(args:List AV)(m:Mem):x2cl (d+1) hs x38 args m=xfw (x2cl d) hs args m:=by kernel_rfl
theorem x1au(d:Nat)(hs:FHs)(args:List AV)(m:Mem):x2cl (d+1) hs x6o args m=xfx (x2cl d) hs args m:=by kernel_rfl
theorem x1av(d:Nat)(hs:FHs)(args:List AV)(m:Mem):x2cl (d+1) hs x5e args m=xfz (x2cl d) hs args m:=by kernel_rfl
theorem x1aw(d:Nat)(hs:FHs)(args:List AV)(m:Mem):x2cl (d+1) hs x39 args m=xg0 (x2cl d) hs args m:=by kernel_rfl
theorem x1ax(d:Nat)(hs:FHs)(args:List AV)(m:Mem):x2cl (d+1) hs x6p args m=xg1 (x2cl d) hs args m:=by kernel_rfl
theorem x1ay(d:Nat)(hs:FHs)(args:List AV)(m:Mem):x2cl (d+1) hs x3a args m=xq3 (x2cl d) hs args m:=by kernel_rfl
theorem x1az(d:Nat)(hs:FHs)(args:List AV)(m:Mem):x2cl (d+1) hs x5f args m=xg3 (x2cl d) hs args m:=by kernel_rfl
theorem x1b0(d:Nat)(hs:FHs)(args:List AV)(m:Mem):x2cl (d+1) hs x3b args m=xg7 (x2cl d) hs args m:=by kernel_rfl
theorem x1b1(d:Nat)(hs:FHs)(args:List AV)(m:Mem):x2cl (d+1) hs x2n args m=xg8 (x2cl d) hs args m:=by kernel_rfl
theorem x1b2(d:Nat)(hs:FHs)(args:List AV)(m:Mem):x2cl (d+1) hs x5g args m=xg9 (x2cl d) hs args m:=by kernel_rfl
theorem x1b3(d:Nat)(hs:FHs)(args:List AV)(m:Mem):x2cl (d+1) hs x6q args m=xga (x2cl d) hs args m:=by kernel_rfl
theorem x1b4(d:Nat)(hs:FHs)(args:List AV)(m:Mem):x2cl (d+1) hs x1x args m=xgb (x2cl d) hs args m:=by kernel_rfl
theorem x1b5(d:Nat)(hs:FHs)(args:List AV)(m:Mem):x2cl (d+1) hs xz args m=xgc (x2cl d) hs args m:=by kernel_rfl
theorem x1b6(d:Nat)(hs:FHs)(args:List AV)(m:Mem):x2cl (d+1) hs x3c args m=xgd (x2cl d) hs args m:=by kernel_rfl
theorem x1b7(d:Nat)(hs:FHs)(args:List AV)(m:Mem):x2cl (d+1) hs x3d args m=xge (x2cl d) hs args m:=by kernel_rfl
theorem x1b8(d:Nat)(hs:FHs)(args:List AV)(m:Mem):x2cl (d+1) hs x5h args m=xgf (x2cl d) hs args m:=by kernel_rfl
theorem x1b9(d:Nat)(hs:FHs)(args:List AV)(m:Mem):x2cl (d+1) hs x5i args m=xgg (x2cl d) hs args m:=by kernel_rfl
theorem x1ba(d:Nat)(hs:FHs)(args:List AV)(m:Mem):x2cl (d+1) hs x3e args m=xgh (x2cl d) hs args m:=by kernel_rfl
theorem x1bb(d:Nat)(hs:FHs)(args:List AV)(m:Mem):x2cl (d+1) hs x3f args m=xgi (x2cl d) hs args m:=by kernel_rfl
theorem x1bc(d:Nat)(hs:FHs)(args:List AV)(m:Mem):x2cl (d+1) hs x1y args m=xgj (x2cl d) hs args m:=by kernel_rfl
theorem x1bd(d:Nat)(hs:FHs)(args:List AV)(m:Mem):x2cl (d+1) hs x6s args m=xgk (x2cl d) hs args m:=by kernel_rfl
theorem x1be(d:Nat)(hs:FHs)(args:List AV)(m:Mem):x2cl (d+1) hs x2o args m=xgl (x2cl d) hs args m:=by kernel_rfl
theorem x1bf(d:Nat)(hs:FHs)(args:List AV)(m:Mem):x2cl (d+1) hs x2p args m=xgm (x2cl d) hs args m:=by kernel_rfl
theorem x1bg(d:Nat)(hs:FHs)(args:List AV)(m:Mem):x2cl (d+1) hs x3g args m=xgn (x2cl d) hs args m:=by kernel_rfl
theorem x1bh(d:Nat)(hs:FHs)(args:List AV)(m:Mem):x2cl (d+1) hs x6t args m=xgo (x2cl d) hs args m:=by kernel_rfl
theorem x1bi(d:Nat)(hs:FHs)(args:List AV)(m:Mem):x2cl (d+1) hs x1e args m=xgp (x2cl d) hs args m:=by kernel_rfl
theorem x1bj(d:Nat)(hs:FHs)(args:List AV)(m:Mem):x2cl (d+1) hs x1z args m=xgq (x2cl d) hs args m:=by kernel_rfl
theorem x1bk(d:Nat)(hs:FHs)(args:List AV)(m:Mem):x2cl (d+1) hs x5j args m=xgt (x2cl d) hs args m:=by kernel_rfl
theorem x1bl(d:Nat)(hs:FHs)(args:List AV)(m:Mem):x2cl (d+1) hs x5k args m=xgu (x2cl d) hs args m:=by kernel_rfl
theorem x1bm(d:Nat)(hs:FHs)(args:List AV)(m:Mem):x2cl (d+1) hs x5l args m=xgv (x2cl d) hs args m:=by kernel_rfl
theorem x1bn(d:Nat)(hs:FHs)(args:List AV)(m:Mem):x2cl (d+1) hs x5m args m=xgw (x2cl d) hs args m:=by kernel_rfl
theorem x1bo(d:Nat)(hs:FHs)(args:List AV)(m:Mem):x2cl (d+1) hs x3h args m=xgx (x2cl d) hs args m:=by kernel_rfl
theorem x1bp(d:Nat)(hs:FHs)(args:List AV)(m:Mem):x2cl (d+1) hs x3i args m=xgy (x2cl d) hs args m:=by kernel_rfl
theorem x1bq(d:Nat)(hs:FHs)(args:List AV)(m:Mem):x2cl (d+1) hs x5n args m=xh0 (x2cl d) hs args m:=by kernel_rfl
theorem x1br(d:Nat)(hs:FHs)(args:List AV)(m:Mem):x2cl (d+1) hs x5o args m=xh1 (x2cl d) hs args m:=by kernel_rfl
theorem x1bs(d:Nat)(hs:FHs)(args:List AV)(m:Mem):x2cl (d+1) hs x5p args m=xh2 (x2cl d) hs args m:=by kernel_rfl
theorem x1bt(d:Nat)(hs:FHs)(args:List AV)(m:Mem):x2cl (d+1) hs x1f args m=xh3 (x2cl d) hs args m:=by kernel_rfl
theorem x1bu(d:Nat)(hs:FHs)(args:List AV)(m:Mem):x2cl (d+1) hs x6u args m=xh4 (x2cl d) hs args m:=by kernel_rfl
theorem x1bv(d:Nat)(hs:FHs)(args:List AV)(m:Mem):x2cl (d+1) hs x6v args m=xh5 (x2cl d) hs args m:=by kernel_rfl
theorem x1bw(d:Nat)(hs:FHs)(args:List AV)(m:Mem):x2cl (d+1) hs x6w args m=xh6 (x2cl d) hs args m:=by kernel_rfl
theorem x1bx(d:Nat)(hs:FHs)(args:List AV)(m:Mem):x2cl (d+1) hs xv args m=xh7 (x2cl d) hs args m:=by kernel_rfl
theorem x1by(d:Nat)(hs:FHs)(args:List AV)(m:Mem):x2cl (d+1) hs x6x args m=xh8 (x2cl d) hs args m:=by kernel_rfl
theorem x1bz(d:Nat)(hs:FHs)(args:List AV)(m:Mem):x2cl (d+1) hs x3j args m=xh9 (x2cl d) hs args m:=by kernel_rfl
theorem x1c0(d:Nat)(hs:FHs)(args:List AV)(m:Mem):x2cl (d+1) hs x59 args m=xfm (x2cl d) hs args m:=by kernel_rfl
theorem x1c1(d:Nat)(hs:FHs)(args:List AV)(m:Mem):x2cl (d+1) hs x6z args m=xha (x2cl d) hs args m:=by kernel_rfl
theorem x1c2(d:Nat)(hs:FHs)(args:List AV)(m:Mem):x2cl (d+1) hs x5q args m=xhb (x2cl d) hs args m:=by kernel_rfl
theorem x1c3(d:Nat)(hs:FHs)(args:List AV)(m:Mem):x2cl (d+1) hs x70 args m=xhc (x2cl d) hs args m:=by kernel_rfl
theorem x1c4(d:Nat)(hs:FHs)(args:List AV)(m:Mem):x2cl (d+1) hs x3k args m=xhd (x2cl d) hs args m:=by kernel_rfl
theorem x1c5(d:Nat)(hs:FHs)(args:List AV)(m:Mem):x2cl (d+1) hs x71 args m=xhe (x2cl d) hs args m:=by kernel_rfl
theorem x1c6(d:Nat)(hs:FHs)(args:List AV)(m:Mem):x2cl (d+1) hs x8c args m=xhf (x2cl d) hs args m:=by kernel_rfl
theorem x1c7(d:Nat)(hs:FHs)(args:List AV)(m:Mem):x2cl (d+1) hs x5r args m=xhg (x2cl d) hs args m:=by kernel_rfl
theorem x1c8(d:Nat)(hs:FHs)(args:List AV)(m:Mem):x2cl (d+1) hs x5s args m=xhh (x2cl d) hs args m:=by kernel_rfl
theorem x1c9(d:Nat)(hs:FHs)(args:List AV)(m:Mem):x2cl (d+1) hs x5t args m=xhi (x2cl d) hs args m:=by kernel_rfl
theorem x1ca(d:Nat)(hs:FHs)(args:List AV)(m:Mem):x2cl (d+1) hs x72 args m=xhj (x2cl d) hs args m:=by kernel_rfl
theorem x1cb(d:Nat)(hs:FHs)(args:List AV)(m:Mem):x2cl (d+1) hs xi args m=xhk (x2cl d) hs args m:=by kernel_rfl
theorem x1cc(d:Nat)(hs:FHs)(args:List AV)(m:Mem):x2cl (d+1) hs x73 args m=xhl (x2cl d) hs args m:=by kernel_rfl
theorem x1cd(d:Nat)(hs:FHs)(args:List AV)(m:Mem):x2cl (d+1) hs x5v args m=xhm (x2cl d) hs args m:=by kernel_rfl
end Go.Ix
