import Derived.Test.YtpeakdjfagbpcaaGreatFxText0
import Derived.Test.YtpeakdjfagbpcaaGreatFxEnt
import Derived.Test.YtpeakdjfagbpcaaGreatFxRules
namespace Go.Ix
open Go.Proofs
noncomputable def table:List (FuncId×FnT):=[(x4e,x7e),(xv,x7f),(x3j,x7g),(x2t,x7h),(x3k,x7i),(x2u,x7j),(x1m,x7k),(x3l,x56),(x3m,x7l),(x1n,xcg),(x3n,x7m),(x2v,x7n),(x2w,x7o),(x2x,x7p),(xw,x7q),(x2y,x7r),(xx,x7s),(x2z,x7t),(x3o,x7u),(x3p,x7v),(x30,x7w),(x1o,x7x),(x1p,x7y),(x31,x7z),(x1q,x80),(x32,x81),(x3q,x82),(x3r,x83),(x33,x84),(x3s,x85),(x3t,x86),(x34,x87),(x3u,x88),(x3v,x89),(x3w,x8a),(x35,x8b),(x3x,x8c),(x3y,x8d),(x3z,x8e),(xe,x8f),(x40,x8g),(x41,x8h),(x1r,x8i),(x42,x8j),(x36,x8k),(x43,x8l),(x1s,x8m),(xy,x8n),(x44,x8o),(xz,x8p),(x1t,x8q),(x45,x8r),(x4f,x8s),(x37,x8t),(x46,x8u),(x38,x8v),(x47,x8w),(x39,x8x),(x48,x8y),(x3a,x8z)]
noncomputable def whole(f:FuncId):FnT:=fun call hs args m=>x109 Tryz.prog pol NN call hs f args m
noncomputable def xwy:Nat->xwx
 |0=>fun _ _ _ _=>none
 |d+1=>fun hs f args m=>look (whole f) f table (xwy d) hs args m
theorem xhu(d:Nat)(hs:FHs)(args:List AV)(m:Mem):xwy (d+1) hs x4e args m=x7e (xwy d) hs args m:=by kernel_rfl
theorem xhv(d:Nat)(hs:FHs)(args:List AV)(m:Mem):xwy (d+1) hs xv args m=x7f (xwy d) hs args m:=by kernel_rfl
theorem xhw(d:Nat)(hs:FHs)(args:List AV)(m:Mem):xwy (d+1) hs x3j args m=x7g (xwy d) hs args m:=by kernel_rfl
theorem xhx(d:Nat)(hs:FHs)(args:List AV)(m:Mem):xwy (d+1) hs x2t args m=x7h (xwy d) hs args m:=by kernel_rfl
theorem xhy(d:Nat)(hs:FHs)(args:List AV)(m:Mem):xwy (d+1) hs x3k args m=x7i (xwy d) hs args m:=by kernel_rfl
theorem xhz(d:Nat)(hs:FHs)(args:List AV)(m:Mem):xwy (d+1) hs x2u args m=x7j (xwy d) hs args m:=by kernel_rfl
theorem xi0(d:Nat)(hs:FHs)(args:List AV)(m:Mem):xwy (d+1) hs x1m args m=x7k (xwy d) hs args m:=by kernel_rfl
theorem xch(d:Nat)(hs:FHs)(args:List AV)(m:Mem):xwy (d+1) hs x3l args m=x56 (xwy d) hs args m:=by kernel_rfl
theorem xi1(d:Nat)(hs:FHs)(args:List AV)(m:Mem):xwy (d+1) hs x3m args m=x7l (xwy d) hs args m:=by kernel_rfl
theorem xi2(d:Nat)(hs:FHs)(args:List AV)(m:Mem):xwy (d+1) hs x1n args m=xcg (xwy d) hs args m:=by kernel_rfl
theorem xi3(d:Nat)(hs:FHs)(args:List AV)(m:Mem):xwy (d+1) hs x3n args m=x7m (xwy d) hs args m:=by kernel_rfl
theorem xi4(d:Nat)(hs:FHs)(args:List AV)(m:Mem):xwy (d+1) hs x2v args m=x7n (xwy d) hs args m:=by kernel_rfl
theorem xi5(d:Nat)(hs:FHs)(args:List AV)(m:Mem):xwy (d+1) hs x2w args m=x7o (xwy d) hs args m:=by kernel_rfl
theorem xi6(d:Nat)(hs:FHs)(args:List AV)(m:Mem):xwy (d+1) hs x2x args m=x7p (xwy d) hs args m:=by kernel_rfl
theorem xi7(d:Nat)(hs:FHs)(args:List AV)(m:Mem):xwy (d+1) hs xw args m=x7q (xwy d) hs args m:=by kernel_rfl
theorem xi8(d:Nat)(hs:FHs)(args:List AV)(m:Mem):xwy (d+1) hs x2y args m=x7r (xwy d) hs args m:=by kernel_rfl
theorem xi9(d:Nat)(hs:FHs)(args:List AV)(m:Mem):xwy (d+1) hs xx args m=x7s (xwy d) hs args m:=by kernel_rfl
theorem xia(d:Nat)(hs:FHs)(args:List AV)(m:Mem):xwy (d+1) hs x2z args m=x7t (xwy d) hs args m:=by kernel_rfl
theorem xib(d:Nat)(hs:FHs)(args:List AV)(m:Mem):xwy (d+1) hs x3o args m=x7u (xwy d) hs args m:=by kernel_rfl
theorem xic(d:Nat)(hs:FHs)(args:List AV)(m:Mem):xwy (d+1) hs x3p args m=x7v (xwy d) hs args m:=by kernel_rfl
theorem xid(d:Nat)(hs:FHs)(args:List AV)(m:Mem):xwy (d+1) hs x30 args m=x7w (xwy d) hs args m:=by kernel_rfl
theorem xie(d:Nat)(hs:FHs)(args:List AV)(m:Mem):xwy (d+1) hs x1o args m=x7x (xwy d) hs args m:=by kernel_rfl
theorem xif(d:Nat)(hs:FHs)(args:List AV)(m:Mem):xwy (d+1) hs x1p args m=x7y (xwy d) hs args m:=by kernel_rfl
theorem xig(d:Nat)(hs:FHs)(args:List AV)(m:Mem):xwy (d+1) hs x31 args m=x7z (xwy d) hs args m:=by kernel_rfl
theorem xih(d:Nat)(hs:FHs)(args:List AV)(m:Mem):xwy (d+1) hs x1q args m=x80 (xwy d) hs args m:=by kernel_rfl
theorem xii(d:Nat)(hs:FHs)(args:List AV)(m:Mem):xwy (d+1) hs x32 args m=x81 (xwy d) hs args m:=by kernel_rfl
theorem xij(d:Nat)(hs:FHs)(args:List AV)(m:Mem):xwy (d+1) hs x3q args m=x82 (xwy d) hs args m:=by kernel_rfl
theorem xik(d:Nat)(hs:FHs)(args:List AV)(m:Mem):xwy (d+1) hs x3r args m=x83 (xwy d) hs args m:=by kernel_rfl
theorem xil(d:Nat)(hs:FHs)(args:List AV)(m:Mem):xwy (d+1) hs x33 args m=x84 (xwy d) hs args m:=by kernel_rfl
theorem xim(d:Nat)(hs:FHs)(args:List AV)(m:Mem):xwy (d+1) hs x3s args m=x85 (xwy d) hs args m:=by kernel_rfl
theorem xin(d:Nat)(hs:FHs)(args:List AV)(m:Mem):xwy (d+1) hs x3t args m=x86 (xwy d) hs args m:=by kernel_rfl
theorem xio(d:Nat)(hs:FHs)(args:List AV)(m:Mem):xwy (d+1) hs x34 args m=x87 (xwy d) hs args m:=by kernel_rfl
theorem xip(d:Nat)(hs:FHs)(args:List AV)(m:Mem):xwy (d+1) hs x3u args m=x88 (xwy d) hs args m:=by kernel_rfl
theorem xiq(d:Nat)(hs:FHs)(args:List AV)(m:Mem):xwy (d+1) hs x3v args m=x89 (xwy d) hs args m:=by kernel_rfl
theorem xir(d:Nat)(hs:FHs)(args:List AV)(m:Mem):xwy (d+1) hs x3w args m=x8a (xwy d) hs args m:=by kernel_rfl
theorem xis(d:Nat)(hs:FHs)(args:List AV)(m:Mem):xwy (d+1) hs x35 args m=x8b (xwy d) hs args m:=by kernel_rfl
theorem xit(d:Nat)(hs:FHs)(args:List AV)(m:Mem):xwy (d+1) hs x3x args m=x8c (xwy d) hs args m:=by kernel_rfl
theorem xiu(d:Nat)(hs:FHs)(args:List AV)(m:Mem):xwy (d+1) hs x3y args m=x8d (xwy d) hs args m:=by kernel_rfl
theorem xiv(d:Nat)(hs:FHs)(args:List AV)(m:Mem):xwy (d+1) hs x3z args m=x8e (xwy d) hs args m:=by kernel_rfl
theorem xiw(d:Nat)(hs:FHs)(args:List AV)(m:Mem):xwy (d+1) hs xe args m=x8f (xwy d) hs args m:=by kernel_rfl
theorem xix(d:Nat)(hs:FHs)(args:List AV)(m:Mem):xwy (d+1) hs x40 args m=x8g (xwy d) hs args m:=by kernel_rfl
theorem xiy(d:Nat)(hs:FHs)(args:List AV)(m:Mem):xwy (d+1) hs x41 args m=x8h (xwy d) hs args m:=by kernel_rfl
theorem xiz(d:Nat)(hs:FHs)(args:List AV)(m:Mem):xwy (d+1) hs x1r args m=x8i (xwy d) hs args m:=by kernel_rfl
theorem xj0(d:Nat)(hs:FHs)(args:List AV)(m:Mem):xwy (d+1) hs x42 args m=x8j (xwy d) hs args m:=by kernel_rfl
theorem xj1(d:Nat)(hs:FHs)(args:List AV)(m:Mem):xwy (d+1) hs x36 args m=x8k (xwy d) hs args m:=by kernel_rfl
theorem xj2(d:Nat)(hs:FHs)(args:List AV)(m:Mem):xwy (d+1) hs x43 args m=x8l (xwy d) hs args m:=by kernel_rfl
theorem xj3(d:Nat)(hs:FHs)(args:List AV)(m:Mem):xwy (d+1) hs x1s args m=x8m (xwy d) hs args m:=by kernel_rfl
theorem xj4(d:Nat)(hs:FHs)(args:List AV)(m:Mem):xwy (d+1) hs xy args m=x8n (xwy d) hs args m:=by kernel_rfl
theorem xj5(d:Nat)(hs:FHs)(args:List AV)(m:Mem):xwy (d+1) hs x44 args m=x8o (xwy d) hs args m:=by kernel_rfl
theorem xj6(d:Nat)(hs:FHs)(args:List AV)(m:Mem):xwy (d+1) hs xz args m=x8p (xwy d) hs args m:=by kernel_rfl
theorem xj7(d:Nat)(hs:FHs)(args:List AV)(m:Mem):xwy (d+1) hs x1t args m=x8q (xwy d) hs args m:=by kernel_rfl
theorem xj8(d:Nat)(hs:FHs)(args:List AV)(m:Mem):xwy (d+1) hs x45 args m=x8r (xwy d) hs args m:=by kernel_rfl
theorem xj9(d:Nat)(hs:FHs)(args:List AV)(m:Mem):xwy (d+1) hs x4f args m=x8s (xwy d) hs args m:=by kernel_rfl
theorem xja(d:Nat)(hs:FHs)(args:List AV)(m:Mem):xwy (d+1) hs x37 args m=x8t (xwy d) hs args m:=by kernel_rfl
theorem xjb(d:Nat)(hs:FHs)(args:List AV)(m:Mem):xwy (d+1) hs x46 args m=x8u (xwy d) hs args m:=by kernel_rfl
theorem xjc(d:Nat)(hs:FHs)(args:List AV)(m:Mem):xwy (d+1) hs x38 args m=x8v (xwy d) hs args m:=by kernel_rfl
theorem xjd(d:Nat)(hs:FHs)(args:List AV)(m:Mem):xwy (d+1) hs x47 args m=x8w (xwy d) hs args m:=by kernel_rfl
theorem xje(d:Nat)(hs:FHs)(args:List AV)(m:Mem):xwy (d+1) hs x39 args m=x8x (xwy d) hs args m:=by kernel_rfl
theorem xjf(d:Nat)(hs:FHs)(args:List AV)(m:Mem):xwy (d+1) hs x48 args m=x8y (xwy d) hs args m:=by kernel_rfl
theorem xjg(d:Nat)(hs:FHs)(args:List AV)(m:Mem):xwy (d+1) hs x3a args m=x8z (xwy d) hs args m:=by kernel_rfl
end Go.Ix
