import Derived.Test.YtpeakdjfagbpcaaGreatFxText0
import Derived.Test.YtpeakdjfagbpcaaGreatFxText1
import Derived.Test.YtpeakdjfagbpcaaGreatFxEnt
import Derived.Test.YtpeakdjfagbpcaaGreatFxRules
namespace Go.Ix
open Go.Proofs
noncomputable def table:List (FuncId×FnT):=[(x9x,x18w),(x2f,x18x),(x9y,x18y),(x3u,x18z),(x9z,x190),(xa0,x191),(xa1,x192),(xa2,x193),(xa3,x194),(xa4,x195),(x6d,x196),(xa5,x197),(xee,x198),(xef,x199),(x6e,xeg),(x2w,x19a),(xa6,x19b),(x6f,x19c),(xa7,x19d),(x6g,x19e),(xk,xeh),(xa8,x19f),(x16,xei),(xa9,x19g),(x2x,xej),(xaa,x19h),(xab,x19i),(x3v,xek),(xel,x19j),(x2g,xem),(x6h,x19k),(x3w,xen),(xeo,x19l),(xac,x19m),(xad,x19n),(xae,x19o),(x3x,xep),(x3y,xeq),(x2y,xer),(x56,xes),(xet,x19p),(xeu,x19q),(xaf,x19r),(xev,x19s),(x6i,x19t),(x3z,x19u),(x6j,x19v),(xag,x19w),(x6k,x19x),(x57,x19y),(x2z,x19z),(xv,xew),(x6l,x1a0),(x6m,x1a1),(x2h,xex),(xah,x1a2),(x6n,x1a3),(x30,xey),(x1p,xez),(x58,xf0),(x1f,xf1),(x2i,xf2),(x31,xf3),(xai,x1a4),(xaj,x1a5),(x6o,x1a6),(x59,xf4),(x17,xf5),(x40,x1a7),(x6p,x1a8),(xak,x1a9),(xf6,x1aa),(xal,x1ab),(xf7,x1ac),(x6q,x1ad),(x41,xf8),(x42,xf9),(x32,xfa),(x6r,x1ae),(x5a,x1af),(x6s,x1ag),(xfb,x1ah),(xam,x1ai),(xan,x1aj),(xao,x1ak),(x43,x1al),(xap,x1am),(x5b,xfc),(x5c,xfd),(xq,xfe),(x5d,xff),(xaq,x1an),(x5e,x1ao),(xar,x1ap),(x5f,x1aq),(xas,x1ar),(x6t,x1as),(xat,x1at),(xau,x1au),(xav,x1av),(xaw,x1aw),(xax,x1ax),(xay,x1ay),(x5g,xfg),(xaz,x1az),(xb0,x1b0),(xb1,x1b1),(x6u,x1b2),(xb2,x1b3),(xb3,x1b4),(xb4,x1b5),(xb5,x1b6),(x5h,x1b7),(x6v,x1b8),(xb6,x1b9),(xb7,x1ba),(x6w,x1bb),(x6x,x1bc),(x44,x1bd),(xb8,x1be),(xb9,x1bf),(xba,x1bg),(xbb,x1bh),(xbc,x1bi),(xbd,x1bj),(xl,x1bk),(xbe,x1bl),(xbf,x1bm),(xbg,x1bn),(xbh,x1bo),(xbi,x1bp),(xbj,x1bq),(x6y,x1br),(xbk,x1bs),(xbl,x1bt),(x5i,x1bu),(x6z,x1bv),(x70,x1bw),(xbm,x1bx),(x5j,x1by),(x5k,x1bz)]
noncomputable def x2ej:Nat->x2ee
 |0=>fun _ _ _ _=>none
 |d+1=>fun hs f args m=>look f table (x2ej d) hs args m
theorem x1c0(d:Nat)(hs:FHs)(args:List AV)(m:Mem):x2ej (d+1) hs x6e args m=xeg (x2ej d) hs args m:=by kernel_rfl
theorem x1c1(d:Nat)(hs:FHs)(args:List AV)(m:Mem):x2ej (d+1) hs xk args m=xeh (x2ej d) hs args m:=by kernel_rfl
theorem x1c2(d:Nat)(hs:FHs)(args:List AV)(m:Mem):x2ej (d+1) hs x16 args m=xei (x2ej d) hs args m:=by kernel_rfl
theorem x1c3(d:Nat)(hs:FHs)(args:List AV)(m:Mem):x2ej (d+1) hs x2x args m=xej (x2ej d) hs args m:=by kernel_rfl
theorem x1c4(d:Nat)(hs:FHs)(args:List AV)(m:Mem):x2ej (d+1) hs x3v args m=xek (x2ej d) hs args m:=by kernel_rfl
theorem x1c5(d:Nat)(hs:FHs)(args:List AV)(m:Mem):x2ej (d+1) hs x2g args m=xem (x2ej d) hs args m:=by kernel_rfl
theorem x1c6(d:Nat)(hs:FHs)(args:List AV)(m:Mem):x2ej (d+1) hs x3w args m=xen (x2ej d) hs args m:=by kernel_rfl
theorem x1c7(d:Nat)(hs:FHs)(args:List AV)(m:Mem):x2ej (d+1) hs x3x args m=xep (x2ej d) hs args m:=by kernel_rfl
theorem x1c8(d:Nat)(hs:FHs)(args:List AV)(m:Mem):x2ej (d+1) hs x3y args m=xeq (x2ej d) hs args m:=by kernel_rfl
theorem x1c9(d:Nat)(hs:FHs)(args:List AV)(m:Mem):x2ej (d+1) hs x2y args m=xer (x2ej d) hs args m:=by kernel_rfl
theorem x1ca(d:Nat)(hs:FHs)(args:List AV)(m:Mem):x2ej (d+1) hs x56 args m=xes (x2ej d) hs args m:=by kernel_rfl
theorem x1cb(d:Nat)(hs:FHs)(args:List AV)(m:Mem):x2ej (d+1) hs xv args m=xew (x2ej d) hs args m:=by kernel_rfl
theorem x1cc(d:Nat)(hs:FHs)(args:List AV)(m:Mem):x2ej (d+1) hs x2h args m=xex (x2ej d) hs args m:=by kernel_rfl
theorem x1cd(d:Nat)(hs:FHs)(args:List AV)(m:Mem):x2ej (d+1) hs x30 args m=xey (x2ej d) hs args m:=by kernel_rfl
theorem x1ce(d:Nat)(hs:FHs)(args:List AV)(m:Mem):x2ej (d+1) hs x1p args m=xez (x2ej d) hs args m:=by kernel_rfl
theorem x1cf(d:Nat)(hs:FHs)(args:List AV)(m:Mem):x2ej (d+1) hs x58 args m=xf0 (x2ej d) hs args m:=by kernel_rfl
theorem x1cg(d:Nat)(hs:FHs)(args:List AV)(m:Mem):x2ej (d+1) hs x1f args m=xf1 (x2ej d) hs args m:=by kernel_rfl
theorem x1ch(d:Nat)(hs:FHs)(args:List AV)(m:Mem):x2ej (d+1) hs x2i args m=xf2 (x2ej d) hs args m:=by kernel_rfl
theorem x1ci(d:Nat)(hs:FHs)(args:List AV)(m:Mem):x2ej (d+1) hs x31 args m=xf3 (x2ej d) hs args m:=by kernel_rfl
theorem x1cj(d:Nat)(hs:FHs)(args:List AV)(m:Mem):x2ej (d+1) hs x59 args m=xf4 (x2ej d) hs args m:=by kernel_rfl
theorem x1ck(d:Nat)(hs:FHs)(args:List AV)(m:Mem):x2ej (d+1) hs x17 args m=xf5 (x2ej d) hs args m:=by kernel_rfl
theorem x1cl(d:Nat)(hs:FHs)(args:List AV)(m:Mem):x2ej (d+1) hs x41 args m=xf8 (x2ej d) hs args m:=by kernel_rfl
theorem x1cm(d:Nat)(hs:FHs)(args:List AV)(m:Mem):x2ej (d+1) hs x42 args m=xf9 (x2ej d) hs args m:=by kernel_rfl
theorem x1cn(d:Nat)(hs:FHs)(args:List AV)(m:Mem):x2ej (d+1) hs x32 args m=xfa (x2ej d) hs args m:=by kernel_rfl
theorem x1co(d:Nat)(hs:FHs)(args:List AV)(m:Mem):x2ej (d+1) hs x5b args m=xfc (x2ej d) hs args m:=by kernel_rfl
theorem x1cp(d:Nat)(hs:FHs)(args:List AV)(m:Mem):x2ej (d+1) hs x5c args m=xfd (x2ej d) hs args m:=by kernel_rfl
theorem x1cq(d:Nat)(hs:FHs)(args:List AV)(m:Mem):x2ej (d+1) hs xq args m=xfe (x2ej d) hs args m:=by kernel_rfl
theorem x1cr(d:Nat)(hs:FHs)(args:List AV)(m:Mem):x2ej (d+1) hs x5d args m=xff (x2ej d) hs args m:=by kernel_rfl
theorem x1cs(d:Nat)(hs:FHs)(args:List AV)(m:Mem):x2ej (d+1) hs x5g args m=xfg (x2ej d) hs args m:=by kernel_rfl
end Go.Ix
