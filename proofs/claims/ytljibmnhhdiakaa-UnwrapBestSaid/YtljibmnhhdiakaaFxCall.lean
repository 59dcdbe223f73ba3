import Derived.Test.YtljibmnhhdiakaaFxText0
import Derived.Test.YtljibmnhhdiakaaFxText1
import Derived.Test.YtljibmnhhdiakaaFxEnt
import Derived.Test.YtljibmnhhdiakaaFxRules
namespace Go.Ix
open Go.Proofs
noncomputable def table:List (FuncId×FnT):=[
 (x46,x83),
 (xe,x84),
 (x1q,xbb),
 (x1r,x85),
 (x5m,x86),
 (x2v,xbc),
 (x87,xfg),
 (x88,xfh),
 (x2w,x89),
 (x10,x8a),
 (x5n,x8b),
 (x2x,x8c),
 (x29,x5o),
 (x2a,x8d),
 (xbd,xfi),
 (xbe,xfj),
 (xbf,xfk),
 (x6k,x8e),
 (xbg,xfl),
 (xbh,xfm),
 (xbi,xfn),
 (x15,xfo),
 (x47,xfp),
 (x5p,xfq),
 (x1d,xfr),
 (x2y,xfs),
 (x6l,xft),
 (x2z,x8f),
 (x48,x8g),
 (x49,x8h),
 (x4a,xbj),
 (x4b,x8i),
 (x8j,xfu),
 (x2b,x8k),
 (x30,x8l),
 (x1s,x8m),
 (x6m,xfv),
 (x31,x8n),
 (x8o,xfw),
 (x2c,x8p),
 (xb,x8q),
 (x4c,x8r),
 (x5q,xfx),
 (xf,x5r),
 (x8s,xfy),
 (x32,x8t),
 (x5s,x8u),
 (x4d,x8v),
 (x5t,x8w),
 (x5u,xfz),
 (x8x,xg0),
 (x4e,x8y),
 (x8z,xg1),
 (x90,xg2),
 (x5v,x6n),
 (x4f,x91),
 (x92,xg3),
 (x6o,xg4),
 (x6p,xg5),
 (x2d,x93),
 (x4g,xg6),
 (x1t,xbk),
 (x2e,x94),
 (x95,xg7),
 (x5w,x96),
 (x4h,x97),
 (x1e,x98),
 (x4i,x99),
 (x4j,x9a),
 (x4k,x9b),
 (x4l,x9c),
 (x33,x9d),
 (x34,x9e),
 (x4m,x9f),
 (x4n,x9g),
 (x4o,xbl),
 (x5x,xg8),
 (x9h,xg9),
 (x4p,x9i),
 (x2f,x6q),
 (x9j,xga),
 (x4q,xbm),
 (x4r,x9k),
 (x9l,xgb),
 (x9m,xgc),
 (x9n,xgd),
 (x6r,xge),
 (x9o,xgf),
 (x5y,x9p),
 (x4s,x9q),
 (x5z,x9r),
 (x9s,xgg),
 (x9t,xgh),
 (x4t,x9u),
 (x4u,x9v),
 (x60,x9w),
 (x61,x9x),
 (x4v,x9y),
 (x4w,x6s),
 (x4x,x9z),
 (x4y,xa0),
 (x62,xa1),
 (x2g,xa2),
 (xbn,xgi),
 (x35,xa3),
 (x1u,xa4),
 (xa5,xgj),
 (x63,xgk),
 (xa6,xgl)]
noncomputable def x1pa:Nat→x1p9
 | 0=>fun _ _ _ _=>none
 | d+1=>fun hs f args m=>look f table (x1pa d) hs args m
theorem xxl (d:Nat) (hs:FHs) (args:List AV) (m:Mem):x1pa (d+1) hs x6k args m=x8e (x1pa d) hs args m:=by kernel_rfl
theorem xxm (d:Nat) (hs:FHs) (args:List AV) (m:Mem):x1pa (d+1) hs x2z args m=x8f (x1pa d) hs args m:=by kernel_rfl
theorem xxn (d:Nat) (hs:FHs) (args:List AV) (m:Mem):x1pa (d+1) hs x48 args m=x8g (x1pa d) hs args m:=by kernel_rfl
theorem xxo (d:Nat) (hs:FHs) (args:List AV) (m:Mem):x1pa (d+1) hs x49 args m=x8h (x1pa d) hs args m:=by kernel_rfl
theorem xxp (d:Nat) (hs:FHs) (args:List AV) (m:Mem):x1pa (d+1) hs x4a args m=xbj (x1pa d) hs args m:=by kernel_rfl
theorem xxq (d:Nat) (hs:FHs) (args:List AV) (m:Mem):x1pa (d+1) hs x4b args m=x8i (x1pa d) hs args m:=by kernel_rfl
theorem xxr (d:Nat) (hs:FHs) (args:List AV) (m:Mem):x1pa (d+1) hs x2b args m=x8k (x1pa d) hs args m:=by kernel_rfl
theorem xxs (d:Nat) (hs:FHs) (args:List AV) (m:Mem):x1pa (d+1) hs x30 args m=x8l (x1pa d) hs args m:=by kernel_rfl
theorem xxt (d:Nat) (hs:FHs) (args:List AV) (m:Mem):x1pa (d+1) hs x1s args m=x8m (x1pa d) hs args m:=by kernel_rfl
theorem xxu (d:Nat) (hs:FHs) (args:List AV) (m:Mem):x1pa (d+1) hs x31 args m=x8n (x1pa d) hs args m:=by kernel_rfl
theorem xxv (d:Nat) (hs:FHs) (args:List AV) (m:Mem):x1pa (d+1) hs x2c args m=x8p (x1pa d) hs args m:=by kernel_rfl
theorem xxw (d:Nat) (hs:FHs) (args:List AV) (m:Mem):x1pa (d+1) hs xb args m=x8q (x1pa d) hs args m:=by kernel_rfl
theorem xxx (d:Nat) (hs:FHs) (args:List AV) (m:Mem):x1pa (d+1) hs x4c args m=x8r (x1pa d) hs args m:=by kernel_rfl
theorem xgm (d:Nat) (hs:FHs) (args:List AV) (m:Mem):x1pa (d+1) hs xf args m=x5r (x1pa d) hs args m:=by kernel_rfl
theorem xls (d:Nat) (hs:FHs) (args:List AV) (m:Mem):x1pa (d+1) hs x32 args m=x8t (x1pa d) hs args m:=by kernel_rfl
theorem xxy (d:Nat) (hs:FHs) (args:List AV) (m:Mem):x1pa (d+1) hs x5s args m=x8u (x1pa d) hs args m:=by kernel_rfl
theorem xxz (d:Nat) (hs:FHs) (args:List AV) (m:Mem):x1pa (d+1) hs x4d args m=x8v (x1pa d) hs args m:=by kernel_rfl
theorem xy0 (d:Nat) (hs:FHs) (args:List AV) (m:Mem):x1pa (d+1) hs x5t args m=x8w (x1pa d) hs args m:=by kernel_rfl
theorem xy1 (d:Nat) (hs:FHs) (args:List AV) (m:Mem):x1pa (d+1) hs x4e args m=x8y (x1pa d) hs args m:=by kernel_rfl
theorem xlt (d:Nat) (hs:FHs) (args:List AV) (m:Mem):x1pa (d+1) hs x5v args m=x6n (x1pa d) hs args m:=by kernel_rfl
theorem xy2 (d:Nat) (hs:FHs) (args:List AV) (m:Mem):x1pa (d+1) hs x4f args m=x91 (x1pa d) hs args m:=by kernel_rfl
theorem xy3 (d:Nat) (hs:FHs) (args:List AV) (m:Mem):x1pa (d+1) hs x2d args m=x93 (x1pa d) hs args m:=by kernel_rfl
theorem xy4 (d:Nat) (hs:FHs) (args:List AV) (m:Mem):x1pa (d+1) hs x1t args m=xbk (x1pa d) hs args m:=by kernel_rfl
theorem xy5 (d:Nat) (hs:FHs) (args:List AV) (m:Mem):x1pa (d+1) hs x2e args m=x94 (x1pa d) hs args m:=by kernel_rfl
theorem xy6 (d:Nat) (hs:FHs) (args:List AV) (m:Mem):x1pa (d+1) hs x5w args m=x96 (x1pa d) hs args m:=by kernel_rfl
theorem xy7 (d:Nat) (hs:FHs) (args:List AV) (m:Mem):x1pa (d+1) hs x4h args m=x97 (x1pa d) hs args m:=by kernel_rfl
theorem xy8 (d:Nat) (hs:FHs) (args:List AV) (m:Mem):x1pa (d+1) hs x1e args m=x98 (x1pa d) hs args m:=by kernel_rfl
theorem xy9 (d:Nat) (hs:FHs) (args:List AV) (m:Mem):x1pa (d+1) hs x4i args m=x99 (x1pa d) hs args m:=by kernel_rfl
theorem xya (d:Nat) (hs:FHs) (args:List AV) (m:Mem):x1pa (d+1) hs x4j args m=x9a (x1pa d) hs args m:=by kernel_rfl
theorem xyb (d:Nat) (hs:FHs) (args:List AV) (m:Mem):x1pa (d+1) hs x4k args m=x9b (x1pa d) hs args m:=by kernel_rfl
theorem xyc (d:Nat) (hs:FHs) (args:List AV) (m:Mem):x1pa (d+1) hs x4l args m=x9c (x1pa d) hs args m:=by kernel_rfl
theorem xyd (d:Nat) (hs:FHs) (args:List AV) (m:Mem):x1pa (d+1) hs x33 args m=x9d (x1pa d) hs args m:=by kernel_rfl
theorem xye (d:Nat) (hs:FHs) (args:List AV) (m:Mem):x1pa (d+1) hs x34 args m=x9e (x1pa d) hs args m:=by kernel_rfl
theorem xyf (d:Nat) (hs:FHs) (args:List AV) (m:Mem):x1pa (d+1) hs x4m args m=x9f (x1pa d) hs args m:=by kernel_rfl
theorem xyg (d:Nat) (hs:FHs) (args:List AV) (m:Mem):x1pa (d+1) hs x4n args m=x9g (x1pa d) hs args m:=by kernel_rfl
theorem xyh (d:Nat) (hs:FHs) (args:List AV) (m:Mem):x1pa (d+1) hs xe args m=x84 (x1pa d) hs args m:=by kernel_rfl
theorem xyi (d:Nat) (hs:FHs) (args:List AV) (m:Mem):x1pa (d+1) hs x4o args m=xbl (x1pa d) hs args m:=by kernel_rfl
theorem xyj (d:Nat) (hs:FHs) (args:List AV) (m:Mem):x1pa (d+1) hs x4p args m=x9i (x1pa d) hs args m:=by kernel_rfl
theorem xlu (d:Nat) (hs:FHs) (args:List AV) (m:Mem):x1pa (d+1) hs x2f args m=x6q (x1pa d) hs args m:=by kernel_rfl
theorem xyk (d:Nat) (hs:FHs) (args:List AV) (m:Mem):x1pa (d+1) hs x4q args m=xbm (x1pa d) hs args m:=by kernel_rfl
theorem xyl (d:Nat) (hs:FHs) (args:List AV) (m:Mem):x1pa (d+1) hs x10 args m=x8a (x1pa d) hs args m:=by kernel_rfl
theorem xym (d:Nat) (hs:FHs) (args:List AV) (m:Mem):x1pa (d+1) hs x4r args m=x9k (x1pa d) hs args m:=by kernel_rfl
theorem xyn (d:Nat) (hs:FHs) (args:List AV) (m:Mem):x1pa (d+1) hs x2w args m=x89 (x1pa d) hs args m:=by kernel_rfl
theorem xyo (d:Nat) (hs:FHs) (args:List AV) (m:Mem):x1pa (d+1) hs x5n args m=x8b (x1pa d) hs args m:=by kernel_rfl
theorem xyp (d:Nat) (hs:FHs) (args:List AV) (m:Mem):x1pa (d+1) hs x5y args m=x9p (x1pa d) hs args m:=by kernel_rfl
theorem xyq (d:Nat) (hs:FHs) (args:List AV) (m:Mem):x1pa (d+1) hs x4s args m=x9q (x1pa d) hs args m:=by kernel_rfl
theorem xyr (d:Nat) (hs:FHs) (args:List AV) (m:Mem):x1pa (d+1) hs x5z args m=x9r (x1pa d) hs args m:=by kernel_rfl
theorem xys (d:Nat) (hs:FHs) (args:List AV) (m:Mem):x1pa (d+1) hs x4t args m=x9u (x1pa d) hs args m:=by kernel_rfl
theorem xgn (d:Nat) (hs:FHs) (args:List AV) (m:Mem):x1pa (d+1) hs x29 args m=x5o (x1pa d) hs args m:=by kernel_rfl
theorem xyt (d:Nat) (hs:FHs) (args:List AV) (m:Mem):x1pa (d+1) hs x2a args m=x8d (x1pa d) hs args m:=by kernel_rfl
theorem xyu (d:Nat) (hs:FHs) (args:List AV) (m:Mem):x1pa (d+1) hs x4u args m=x9v (x1pa d) hs args m:=by kernel_rfl
theorem xyv (d:Nat) (hs:FHs) (args:List AV) (m:Mem):x1pa (d+1) hs x2x args m=x8c (x1pa d) hs args m:=by kernel_rfl
theorem xyw (d:Nat) (hs:FHs) (args:List AV) (m:Mem):x1pa (d+1) hs x60 args m=x9w (x1pa d) hs args m:=by kernel_rfl
theorem xyx (d:Nat) (hs:FHs) (args:List AV) (m:Mem):x1pa (d+1) hs x61 args m=x9x (x1pa d) hs args m:=by kernel_rfl
theorem xyy (d:Nat) (hs:FHs) (args:List AV) (m:Mem):x1pa (d+1) hs x4v args m=x9y (x1pa d) hs args m:=by kernel_rfl
theorem xlv (d:Nat) (hs:FHs) (args:List AV) (m:Mem):x1pa (d+1) hs x4w args m=x6s (x1pa d) hs args m:=by kernel_rfl
theorem xyz (d:Nat) (hs:FHs) (args:List AV) (m:Mem):x1pa (d+1) hs x4x args m=x9z (x1pa d) hs args m:=by kernel_rfl
theorem xz0 (d:Nat) (hs:FHs) (args:List AV) (m:Mem):x1pa (d+1) hs x4y args m=xa0 (x1pa d) hs args m:=by kernel_rfl
theorem xz1 (d:Nat) (hs:FHs) (args:List AV) (m:Mem):x1pa (d+1) hs x2v args m=xbc (x1pa d) hs args m:=by kernel_rfl
theorem xz2 (d:Nat) (hs:FHs) (args:List AV) (m:Mem):x1pa (d+1) hs x1r args m=x85 (x1pa d) hs args m:=by kernel_rfl
theorem xz3 (d:Nat) (hs:FHs) (args:List AV) (m:Mem):x1pa (d+1) hs x62 args m=xa1 (x1pa d) hs args m:=by kernel_rfl
theorem xz4 (d:Nat) (hs:FHs) (args:List AV) (m:Mem):x1pa (d+1) hs x2g args m=xa2 (x1pa d) hs args m:=by kernel_rfl
theorem xz5 (d:Nat) (hs:FHs) (args:List AV) (m:Mem):x1pa (d+1) hs x35 args m=xa3 (x1pa d) hs args m:=by kernel_rfl
theorem xz6 (d:Nat) (hs:FHs) (args:List AV) (m:Mem):x1pa (d+1) hs x1u args m=xa4 (x1pa d) hs args m:=by kernel_rfl
theorem xz7 (d:Nat) (hs:FHs) (args:List AV) (m:Mem):x1pa (d+1) hs x1q args m=xbb (x1pa d) hs args m:=by kernel_rfl
theorem xz8 (d:Nat) (hs:FHs) (args:List AV) (m:Mem):x1pa (d+1) hs x5m args m=x86 (x1pa d) hs args m:=by kernel_rfl
theorem xz9 (d:Nat) (hs:FHs) (args:List AV) (m:Mem):x1pa (d+1) hs x46 args m=x83 (x1pa d) hs args m:=by kernel_rfl
end Go.Ix
