import Derived.Test.YtpeakdjfagbpcaaGreatFxText0
import Derived.Test.YtpeakdjfagbpcaaGreatFxText1
import Derived.Test.YtpeakdjfagbpcaaGreatFxEnt
import Derived.Test.YtpeakdjfagbpcaaGreatFxRules
namespace Go.Ix
open Go.Proofs
noncomputable def table:List (FuncId×FnT):=[(x6q,xut),(x1v,xuu),(x6r,xuv),(x2d,xuw),(x6s,xux),(x6t,xuy),(x6u,xuz),(x6v,xv0),(x6w,xv1),(x6x,xv2),(x46,xv3),(x6y,xv4),(x47,x9u),(x34,xv5),(x6z,xv6),(x1n,x9v),(x2e,xv7),(x35,x9w),(x2f,x9x),(x36,x9y),(x37,x9z),(x70,xv8),(x71,xv9),(x72,xva),(x48,xvb),(x49,xvc),(x38,xvd),(x2g,xa0),(xq,xa1),(x4a,xve),(x4b,xvf),(x73,xvg),(x1w,xa2),(xy,xa3),(x39,xa4),(x4c,xvh),(x4d,xvi),(x4e,xvj),(x74,xvk),(x3a,xvl),(x4f,xvm),(x75,xvn),(x76,xvo),(x4g,xvp),(x77,xvq),(x4h,xvr),(x78,xvs),(x79,xvt),(x3b,xvu),(x7a,xvv),(x3c,xa5),(x3d,xa6),(xf,xa7),(x7b,xvw),(x3e,xvx),(x7c,xvy),(x4i,xvz),(x7d,xw0),(x4j,xw1),(x7e,xw2),(x7f,xw3),(x7g,xw4),(x7h,xw5),(x7i,xw6),(x3f,xa8),(x7j,xw7),(x7k,xw8),(x7l,xw9),(x4k,xwa),(x7m,xwb),(x7n,xwc),(x7o,xwd),(x7p,xwe),(x3g,xwf),(x4l,xwg),(x7q,xwh),(x4m,xwi),(x4n,xwj),(x2h,xwk),(x7r,xwl),(x7s,xwm),(x7t,xwn),(x7u,xwo),(x7v,xwp),(x7w,xwq),(xd,xwr),(x7x,xws),(x7y,xwt),(x7z,xwu),(x80,xwv),(x81,xww),(x82,xwx),(x4o,xwy),(x83,xwz),(x84,xx0),(x3h,xx1),(x4p,xx2),(x4q,xx3),(x85,xx4),(x3i,xx5),(x3j,xx6)]
noncomputable def x1no:Nat->x1nj
 |0=>fun _ _ _ _=>none
 |d+1=>fun hs f args m=>look f table (x1no d) hs args m
theorem xx7(d:Nat)(hs:FHs)(args:List AV)(m:Mem):x1no (d+1) hs x47 args m=x9u (x1no d) hs args m:=by kernel_rfl
theorem xx8(d:Nat)(hs:FHs)(args:List AV)(m:Mem):x1no (d+1) hs x1n args m=x9v (x1no d) hs args m:=by kernel_rfl
theorem xx9(d:Nat)(hs:FHs)(args:List AV)(m:Mem):x1no (d+1) hs x35 args m=x9w (x1no d) hs args m:=by kernel_rfl
theorem xxa(d:Nat)(hs:FHs)(args:List AV)(m:Mem):x1no (d+1) hs x2f args m=x9x (x1no d) hs args m:=by kernel_rfl
theorem xxb(d:Nat)(hs:FHs)(args:List AV)(m:Mem):x1no (d+1) hs x36 args m=x9y (x1no d) hs args m:=by kernel_rfl
theorem xxc(d:Nat)(hs:FHs)(args:List AV)(m:Mem):x1no (d+1) hs x37 args m=x9z (x1no d) hs args m:=by kernel_rfl
theorem xxd(d:Nat)(hs:FHs)(args:List AV)(m:Mem):x1no (d+1) hs x2g args m=xa0 (x1no d) hs args m:=by kernel_rfl
theorem xxe(d:Nat)(hs:FHs)(args:List AV)(m:Mem):x1no (d+1) hs xq args m=xa1 (x1no d) hs args m:=by kernel_rfl
theorem xxf(d:Nat)(hs:FHs)(args:List AV)(m:Mem):x1no (d+1) hs x1w args m=xa2 (x1no d) hs args m:=by kernel_rfl
theorem xxg(d:Nat)(hs:FHs)(args:List AV)(m:Mem):x1no (d+1) hs xy args m=xa3 (x1no d) hs args m:=by kernel_rfl
theorem xxh(d:Nat)(hs:FHs)(args:List AV)(m:Mem):x1no (d+1) hs x39 args m=xa4 (x1no d) hs args m:=by kernel_rfl
theorem xxi(d:Nat)(hs:FHs)(args:List AV)(m:Mem):x1no (d+1) hs x3c args m=xa5 (x1no d) hs args m:=by kernel_rfl
theorem xxj(d:Nat)(hs:FHs)(args:List AV)(m:Mem):x1no (d+1) hs x3d args m=xa6 (x1no d) hs args m:=by kernel_rfl
theorem xxk(d:Nat)(hs:FHs)(args:List AV)(m:Mem):x1no (d+1) hs xf args m=xa7 (x1no d) hs args m:=by kernel_rfl
theorem xxl(d:Nat)(hs:FHs)(args:List AV)(m:Mem):x1no (d+1) hs x3f args m=xa8 (x1no d) hs args m:=by kernel_rfl
end Go.Ix
