import Derived.Test.YtljibmnhhdiakaaFxText0
import Derived.Test.YtljibmnhhdiakaaFxText1
set_option linter.unusedVariables false
namespace Go.Ix
open Go.Proofs
noncomputable def x7d (call:x1lo) (hs:FHs) (args:List AV) (m:Mem):O2:=
 match args with
 | [t0,t1,t2]=>xf3 call hs m.next t0 t1 t2 ⟨m.hp,m.next+1⟩ 0
 | _=>none
noncomputable def xdh (call:x1lo) (hs:FHs) (args:List AV) (m:Mem):O2:=
 match args with
 | [t0,t1,t2]=>xju call hs m.next t0 t1 t2 ⟨m.hp,m.next+1⟩ 0
 | _=>none
noncomputable def xdi (call:x1lo) (hs:FHs) (args:List AV) (m:Mem):O2:=
 match args with
 | [t0,t1,t2]=>xjv call hs m.next t0 t1 t2 ⟨m.hp,m.next+1⟩ 0
 | _=>none
noncomputable def xdj (call:x1lo) (hs:FHs) (args:List AV) (m:Mem):O2:=
 match args with
 | [t0,t1]=>xjw call hs m.next t0 t1 ⟨m.hp,m.next+1⟩ 0
 | _=>none
noncomputable def xdk (call:x1lo) (hs:FHs) (args:List AV) (m:Mem):O2:=
 match args with
 | [t0,t1,t2]=>xjx call hs m.next t0 t1 t2 ⟨m.hp,m.next+1⟩ 0
 | _=>none
noncomputable def xdl (call:x1lo) (hs:FHs) (args:List AV) (m:Mem):O2:=
 match args with
 | [t0,t1]=>xjy call hs m.next t0 t1 ⟨m.hp,m.next+1⟩ 0
 | _=>none
noncomputable def xdm (call:x1lo) (hs:FHs) (args:List AV) (m:Mem):O2:=
 match args with
 | []=>xjz call hs m.next ⟨m.hp,m.next+1⟩ 0
 | _=>none
noncomputable def x7e (call:x1lo) (hs:FHs) (args:List AV) (m:Mem):O2:=
 match args with
 | [t0]=>xf8 call hs m.next t0 ⟨m.hp,m.next+1⟩ 0
 | _=>none
noncomputable def x9y (call:x1lo) (hs:FHs) (args:List AV) (m:Mem):O2:=
 match args with
 | [t0]=>xae call hs m.next t0 ⟨m.hp,m.next+1⟩ 0
 | _=>none
noncomputable def x5f (call:x1lo) (hs:FHs) (args:List AV) (m:Mem):O2:=
 match args with
 | [t0]=>xaf call hs m.next t0 ⟨m.hp,m.next+1⟩ 0
 | _=>none
noncomputable def x7f (call:x1lo) (hs:FHs) (args:List AV) (m:Mem):O2:=
 match args with
 | [t0]=>xf9 call hs m.next t0 ⟨m.hp,m.next+1⟩ 0
 | _=>none
noncomputable def xdn (call:x1lo) (hs:FHs) (args:List AV) (m:Mem):O2:=
 match args with
 | [t0,t1]=>xk1 call hs m.next t0 t1 ⟨m.hp,m.next+1⟩ 0
 | _=>none
noncomputable def xdo (call:x1lo) (hs:FHs) (args:List AV) (m:Mem):O2:=
 match args with
 | [t0,t1]=>xk4 call hs m.next t0 t1 ⟨m.hp,m.next+1⟩ 0
 | _=>none
noncomputable def xdp (call:x1lo) (hs:FHs) (args:List AV) (m:Mem):O2:=
 match args with
 | [t0]=>xk5 call hs m.next t0 ⟨m.hp,m.next+1⟩ 0
 | _=>none
noncomputable def xdq (call:x1lo) (hs:FHs) (args:List AV) (m:Mem):O2:=
 match args with
 | [t0]=>xk9 call hs m.next t0 ⟨m.hp,m.next+1⟩ 0
 | _=>none
noncomputable def xdr (call:x1lo) (hs:FHs) (args:List AV) (m:Mem):O2:=
 match args with
 | [t0]=>xkc call hs m.next t0 ⟨m.hp,m.next+1⟩ 0
 | _=>none
noncomputable def xds (call:x1lo) (hs:FHs) (args:List AV) (m:Mem):O2:=
 match args with
 | [t0]=>xkd call hs m.next t0 ⟨m.hp,m.next+1⟩ 0
 | _=>none
noncomputable def xdt (call:x1lo) (hs:FHs) (args:List AV) (m:Mem):O2:=
 match args with
 | [t0]=>xkg call hs m.next t0 ⟨m.hp,m.next+1⟩ 0
 | _=>none
noncomputable def xdu (call:x1lo) (hs:FHs) (args:List AV) (m:Mem):O2:=
 match args with
 | [t0]=>xki call hs m.next t0 ⟨m.hp,m.next+1⟩ 0
 | _=>none
noncomputable def xdv (call:x1lo) (hs:FHs) (args:List AV) (m:Mem):O2:=
 match args with
 | [t0,t1]=>xkk call hs m.next t0 t1 ⟨m.hp,m.next+1⟩ 0
 | _=>none
noncomputable def x4s (call:x1lo) (hs:FHs) (args:List AV) (m:Mem):O2:=
 match args with
 | [t0,t1,t2]=>x8s call hs m.next t0 t1 t2 ⟨m.hp,m.next+1⟩ 0
 | _=>none
noncomputable def x5h (call:x1lo) (hs:FHs) (args:List AV) (m:Mem):O2:=
 match args with
 | [t0]=>xaj call hs m.next t0 ⟨m.hp,m.next+1⟩ 0
 | _=>none
noncomputable def x7j (call:x1lo) (hs:FHs) (args:List AV) (m:Mem):O2:=
 match args with
 | [t0,t1]=>xfj call hs m.next t0 t1 ⟨m.hp,m.next+1⟩ 0
 | _=>none
noncomputable def x7k (call:x1lo) (hs:FHs) (args:List AV) (m:Mem):O2:=
 match args with
 | [t0]=>xfk call hs m.next t0 ⟨m.hp,m.next+1⟩ 0
 | _=>none
noncomputable def x7l (call:x1lo) (hs:FHs) (args:List AV) (m:Mem):O2:=
 match args with
 | [t0,t1,t2]=>xfl call hs m.next t0 t1 t2 ⟨m.hp,m.next+1⟩ 0
 | _=>none
noncomputable def x7m (call:x1lo) (hs:FHs) (args:List AV) (m:Mem):O2:=
 match args with
 | [t0,t1,t2,t3]=>xfm call hs m.next t0 t1 t2 t3 ⟨m.hp,m.next+1⟩ 0
 | _=>none
noncomputable def x7n (call:x1lo) (hs:FHs) (args:List AV) (m:Mem):O2:=
 match args with
 | [t0]=>xfn call hs m.next t0 ⟨m.hp,m.next+1⟩ 0
 | _=>none
noncomputable def xdw (call:x1lo) (hs:FHs) (args:List AV) (m:Mem):O2:=
 match args with
 | [t0,t1]=>xkl call hs m.next t0 t1 ⟨m.hp,m.next+1⟩ 0
 | _=>none
noncomputable def x7o (call:x1lo) (hs:FHs) (args:List AV) (m:Mem):O2:=
 match args with
 | [t0]=>xfo call hs m.next t0 ⟨m.hp,m.next+1⟩ 0
 | _=>none
noncomputable def xdx (call:x1lo) (hs:FHs) (args:List AV) (m:Mem):O2:=
 match args with
 | [t0]=>xkm call hs m.next t0 ⟨m.hp,m.next+1⟩ 0
 | _=>none
noncomputable def xdy (call:x1lo) (hs:FHs) (args:List AV) (m:Mem):O2:=
 match args with
 | [t0]=>xko call hs m.next t0 ⟨m.hp,m.next+1⟩ 0
 | _=>none
noncomputable def xdz (call:x1lo) (hs:FHs) (args:List AV) (m:Mem):O2:=
 match args with
 | [t0,t1]=>xkp call hs m.next t0 t1 ⟨m.hp,m.next+1⟩ 0
 | _=>none
noncomputable def xe0 (call:x1lo) (hs:FHs) (args:List AV) (m:Mem):O2:=
 match args with
 | [t0,t1]=>xkr call hs m.next t0 t1 ⟨m.hp,m.next+1⟩ 0
 | _=>none
noncomputable def xe1 (call:x1lo) (hs:FHs) (args:List AV) (m:Mem):O2:=
 match args with
 | [t0]=>xks call hs m.next t0 ⟨m.hp,m.next+1⟩ 0
 | _=>none
noncomputable def xe2 (call:x1lo) (hs:FHs) (args:List AV) (m:Mem):O2:=
 match args with
 | [t0]=>xkt call hs m.next t0 ⟨m.hp,m.next+1⟩ 0
 | _=>none
noncomputable def xe3 (call:x1lo) (hs:FHs) (args:List AV) (m:Mem):O2:=
 match args with
 | [t0,t1]=>xkv call hs m.next t0 t1 ⟨m.hp,m.next+1⟩ 0
 | _=>none
noncomputable def xe4 (call:x1lo) (hs:FHs) (args:List AV) (m:Mem):O2:=
 match args with
 | [t0,t1]=>xkx call hs m.next t0 t1 ⟨m.hp,m.next+1⟩ 0
 | _=>none
noncomputable def xe5 (call:x1lo) (hs:FHs) (args:List AV) (m:Mem):O2:=
 match args with
 | [t0]=>xky call hs m.next t0 ⟨m.hp,m.next+1⟩ 0
 | _=>none
noncomputable def xe6 (call:x1lo) (hs:FHs) (args:List AV) (m:Mem):O2:=
 match args with
 | [t0]=>xkz call hs m.next t0 ⟨m.hp,m.next+1⟩ 0
 | _=>none
noncomputable def xe7 (call:x1lo) (hs:FHs) (args:List AV) (m:Mem):O2:=
 match args with
 | [t0]=>xl0 call hs m.next t0 ⟨m.hp,m.next+1⟩ 0
 | _=>none
noncomputable def x7v (call:x1lo) (hs:FHs) (args:List AV) (m:Mem):O2:=
 match args with
 | [t0]=>xfx call hs m.next t0 ⟨m.hp,m.next+1⟩ 0
 | _=>none
noncomputable def x7w (call:x1lo) (hs:FHs) (args:List AV) (m:Mem):O2:=
 match args with
 | [t0]=>xfy call hs m.next t0 ⟨m.hp,m.next+1⟩ 0
 | _=>none
noncomputable def xa4 (call:x1lo) (hs:FHs) (args:List AV) (m:Mem):O2:=
 match args with
 | [t0]=>xax call hs m.next t0 ⟨m.hp,m.next+1⟩ 0
 | _=>none
noncomputable def x7x (call:x1lo) (hs:FHs) (args:List AV) (m:Mem):O2:=
 match args with
 | [t0,t1]=>xg0 call hs m.next t0 t1 ⟨m.hp,m.next+1⟩ 0
 | _=>none
noncomputable def x7y (call:x1lo) (hs:FHs) (args:List AV) (m:Mem):O2:=
 match args with
 | [t0]=>xg1 call hs m.next t0 ⟨m.hp,m.next+1⟩ 0
 | _=>none
noncomputable def xe8 (call:x1lo) (hs:FHs) (args:List AV) (m:Mem):O2:=
 match args with
 | [t0,t1]=>xl2 call hs m.next t0 t1 ⟨m.hp,m.next+1⟩ 0
 | _=>none
noncomputable def x80 (call:x1lo) (hs:FHs) (args:List AV) (m:Mem):O2:=
 match args with
 | [t0]=>xg3 call hs m.next t0 ⟨m.hp,m.next+1⟩ 0
 | _=>none
noncomputable def xe9 (call:x1lo) (hs:FHs) (args:List AV) (m:Mem):O2:=
 match args with
 | [t0]=>xl4 call hs m.next t0 ⟨m.hp,m.next+1⟩ 0
 | _=>none
noncomputable def xea (call:x1lo) (hs:FHs) (args:List AV) (m:Mem):O2:=
 match args with
 | [t0,t1,t2]=>xl5 call hs m.next t0 t1 t2 ⟨m.hp,m.next+1⟩ 0
 | _=>none
noncomputable def xeb (call:x1lo) (hs:FHs) (args:List AV) (m:Mem):O2:=
 match args with
 | [t0]=>xl7 call hs m.next t0 ⟨m.hp,m.next+1⟩ 0
 | _=>none
noncomputable def xec (call:x1lo) (hs:FHs) (args:List AV) (m:Mem):O2:=
 match args with
 | [t0,t1,t2]=>xl8 call hs m.next t0 t1 t2 ⟨m.hp,m.next+1⟩ 0
 | _=>none
noncomputable def xed (call:x1lo) (hs:FHs) (args:List AV) (m:Mem):O2:=
 match args with
 | [t0,t1]=>xl9 call hs m.next t0 t1 ⟨m.hp,m.next+1⟩ 0
 | _=>none
noncomputable def xee (call:x1lo) (hs:FHs) (args:List AV) (m:Mem):O2:=
 match args with
 | [t0]=>xla call hs m.next t0 ⟨m.hp,m.next+1⟩ 0
 | _=>none
noncomputable def xef (call:x1lo) (hs:FHs) (args:List AV) (m:Mem):O2:=
 match args with
 | [t0]=>xld call hs m.next t0 ⟨m.hp,m.next+1⟩ 0
 | _=>none
noncomputable def x81 (call:x1lo) (hs:FHs) (args:List AV) (m:Mem):O2:=
 match args with
 | [t0]=>xgd call hs m.next t0 ⟨m.hp,m.next+1⟩ 0
 | _=>none
noncomputable def xeg (call:x1lo) (hs:FHs) (args:List AV) (m:Mem):O2:=
 match args with
 | [t0,t1,t2,t3]=>xle call hs m.next t0 t1 t2 t3 ⟨m.hp,m.next+1⟩ 0
 | _=>none
noncomputable def x75 (call:x1lo) (hs:FHs) (args:List AV) (m:Mem):O2:=
 match args with
 | [t0,t1,t2]=>xge call hs m.next t0 t1 t2 ⟨m.hp,m.next+1⟩ 0
 | _=>none
noncomputable def xa6 (call:x1lo) (hs:FHs) (args:List AV) (m:Mem):O2:=
 match args with
 | [t0]=>xb4 call hs m.next t0 ⟨m.hp,m.next+1⟩ 0
 | _=>none
noncomputable def xa7 (call:x1lo) (hs:FHs) (args:List AV) (m:Mem):O2:=
 match args with
 | [t0,t1]=>xb7 call hs m.next t0 t1 ⟨m.hp,m.next+1⟩ 0
 | _=>none
noncomputable def xa8 (call:x1lo) (hs:FHs) (args:List AV) (m:Mem):O2:=
 match args with
 | [t0]=>xba call hs m.next t0 ⟨m.hp,m.next+1⟩ 0
 | _=>none
noncomputable def x82 (call:x1lo) (hs:FHs) (args:List AV) (m:Mem):O2:=
 match args with
 | [t0,t1,t2]=>xgg call hs m.next t0 t1 t2 ⟨m.hp,m.next+1⟩ 0
 | _=>none
noncomputable def x83 (call:x1lo) (hs:FHs) (args:List AV) (m:Mem):O2:=
 match args with
 | [t0,t1]=>xgh call hs m.next t0 t1 ⟨m.hp,m.next+1⟩ 0
 | _=>none
noncomputable def xeh (call:x1lo) (hs:FHs) (args:List AV) (m:Mem):O2:=
 match args with
 | [t0,t1]=>xlf call hs m.next t0 t1 ⟨m.hp,m.next+1⟩ 0
 | _=>none
noncomputable def xei (call:x1lo) (hs:FHs) (args:List AV) (m:Mem):O2:=
 match args with
 | [t0]=>xlg call hs m.next t0 ⟨m.hp,m.next+1⟩ 0
 | _=>none
noncomputable def xej (call:x1lo) (hs:FHs) (args:List AV) (m:Mem):O2:=
 match args with
 | [t0]=>xlh call hs m.next t0 ⟨m.hp,m.next+1⟩ 0
 | _=>none
noncomputable def xdg (call:x1lo) (hs:FHs) (args:List AV) (m:Mem):O2:=
 match args with
 | [t0]=>xli call hs m.next t0 ⟨m.hp,m.next+1⟩ 0
 | _=>none
noncomputable def xek (call:x1lo) (hs:FHs) (args:List AV) (m:Mem):O2:=
 match args with
 | [t0,t1]=>xlk call hs m.next t0 t1 ⟨m.hp,m.next+1⟩ 0
 | _=>none
noncomputable def xel (call:x1lo) (hs:FHs) (args:List AV) (m:Mem):O2:=
 match args with
 | [t0,t1]=>xll call hs m.next t0 t1 ⟨m.hp,m.next+1⟩ 0
 | _=>none
noncomputable def xem (call:x1lo) (hs:FHs) (args:List AV) (m:Mem):O2:=
 match args with
 | [t0,t1,t2]=>xlm call hs m.next t0 t1 t2 ⟨m.hp,m.next+1⟩ 0
 | _=>none
noncomputable def xdf (call:x1lo) (hs:FHs) (args:List AV) (m:Mem):O2:=
 match args with
 | [t0]=>xln call hs m.next t0 ⟨m.hp,m.next+1⟩ 0
 | _=>none
noncomputable def xen (call:x1lo) (hs:FHs) (args:List AV) (m:Mem):O2:=
 match args with
 | [t0,t1,t2]=>xlo call hs m.next t0 t1 t2 ⟨m.hp,m.next+1⟩ 0
 | _=>none
noncomputable def xeo (call:x1lo) (hs:FHs) (args:List AV) (m:Mem):O2:=
 match args with
 | [t0,t1,t2]=>xlp call hs m.next t0 t1 t2 ⟨m.hp,m.next+1⟩ 0
 | _=>none
noncomputable def xep (call:x1lo) (hs:FHs) (args:List AV) (m:Mem):O2:=
 match args with
 | [t0,t1]=>xlr call hs m.next t0 t1 ⟨m.hp,m.next+1⟩ 0
 | _=>none
noncomputable def x79 (call:x1lo) (hs:FHs) (args:List AV) (m:Mem):O2:=
 match args with
 | [t0,t1]=>xgm call hs m.next t0 t1 ⟨m.hp,m.next+1⟩ 0
 | _=>none
noncomputable def xeq (call:x1lo) (hs:FHs) (args:List AV) (m:Mem):O2:=
 match args with
 | [t0,t1]=>xls call hs m.next t0 t1 ⟨m.hp,m.next+1⟩ 0
 | _=>none
noncomputable def xer (call:x1lo) (hs:FHs) (args:List AV) (m:Mem):O2:=
 match args with
 | [t0,t1]=>xlt call hs m.next t0 t1 ⟨m.hp,m.next+1⟩ 0
 | _=>none
noncomputable def xes (call:x1lo) (hs:FHs) (args:List AV) (m:Mem):O2:=
 match args with
 | [t0,t1]=>xlu call hs m.next t0 t1 ⟨m.hp,m.next+1⟩ 0
 | _=>none
noncomputable def x8e (call:x1lo) (hs:FHs) (args:List AV) (m:Mem):O2:=
 match args with
 | [t0]=>xgo call hs m.next t0 ⟨m.hp,m.next+1⟩ 0
 | _=>none
noncomputable def x8f (call:x1lo) (hs:FHs) (args:List AV) (m:Mem):O2:=
 match args with
 | [t0]=>xgp call hs m.next t0 ⟨m.hp,m.next+1⟩ 0
 | _=>none
noncomputable def x7b (call:x1lo) (hs:FHs) (args:List AV) (m:Mem):O2:=
 match args with
 | [t0,t1]=>xgq call hs m.next t0 t1 ⟨m.hp,m.next+1⟩ 0
 | _=>none
noncomputable def x7c (call:x1lo) (hs:FHs) (args:List AV) (m:Mem):O2:=
 match args with
 | [t0]=>xgr call hs m.next t0 ⟨m.hp,m.next+1⟩ 0
 | _=>none
noncomputable def x8g (call:x1lo) (hs:FHs) (args:List AV) (m:Mem):O2:=
 match args with
 | [t0,t1]=>xgs call hs m.next t0 t1 ⟨m.hp,m.next+1⟩ 0
 | _=>none
noncomputable def x7a (call:x1lo) (hs:FHs) (args:List AV) (m:Mem):O2:=
 match args with
 | [t0]=>xgt call hs m.next t0 ⟨m.hp,m.next+1⟩ 0
 | _=>none
noncomputable def xet (call:x1lo) (hs:FHs) (args:List AV) (m:Mem):O2:=
 match args with
 | [t0,t1]=>xlw call hs m.next t0 t1 ⟨m.hp,m.next+1⟩ 0
 | _=>none
noncomputable def xeu (call:x1lo) (hs:FHs) (args:List AV) (m:Mem):O2:=
 match args with
 | [t0]=>xlx call hs m.next t0 ⟨m.hp,m.next+1⟩ 0
 | _=>none
noncomputable def xev (call:x1lo) (hs:FHs) (args:List AV) (m:Mem):O2:=
 match args with
 | [t0,t1]=>xly call hs m.next t0 t1 ⟨m.hp,m.next+1⟩ 0
 | _=>none
noncomputable def xew (call:x1lo) (hs:FHs) (args:List AV) (m:Mem):O2:=
 match args with
 | [t0,t1]=>xlz call hs m.next t0 t1 ⟨m.hp,m.next+1⟩ 0
 | _=>none
noncomputable def xex (call:x1lo) (hs:FHs) (args:List AV) (m:Mem):O2:=
 match args with
 | [t0]=>xm0 call hs m.next t0 ⟨m.hp,m.next+1⟩ 0
 | _=>none
noncomputable def x8l (call:x1lo) (hs:FHs) (args:List AV) (m:Mem):O2:=
 match args with
 | [t0,t1]=>xgv call hs m.next t0 t1 ⟨m.hp,m.next+1⟩ 0
 | _=>none
noncomputable def x9r (call:x1lo) (hs:FHs) (args:List AV) (m:Mem):O2:=
 match args with
 | [t0,t1,t2]=>xc2 call hs m.next t0 t1 t2 ⟨m.hp,m.next+1⟩ 0
 | _=>none
noncomputable def x76 (call:x1lo) (hs:FHs) (args:List AV) (m:Mem):O2:=
 match args with
 | [t0,t1]=>xgw call hs m.next t0 t1 ⟨m.hp,m.next+1⟩ 0
 | _=>none
noncomputable def x9s (call:x1lo) (hs:FHs) (args:List AV) (m:Mem):O2:=
 match args with
 | [t0,t1,t2,t3]=>xc6 call hs m.next t0 t1 t2 t3 ⟨m.hp,m.next+1⟩ 0
 | _=>none
noncomputable def x8m (call:x1lo) (hs:FHs) (args:List AV) (m:Mem):O2:=
 match args with
 | [t0,t1]=>xgx call hs m.next t0 t1 ⟨m.hp,m.next+1⟩ 0
 | _=>none
noncomputable def xey (call:x1lo) (hs:FHs) (args:List AV) (m:Mem):O2:=
 match args with
 | [t0]=>xm2 call hs m.next t0 ⟨m.hp,m.next+1⟩ 0
 | _=>none
noncomputable def xez (call:x1lo) (hs:FHs) (args:List AV) (m:Mem):O2:=
 match args with
 | [t0,t1,t2]=>xm6 call hs m.next t0 t1 t2 ⟨m.hp,m.next+1⟩ 0
 | _=>none
noncomputable def x8p (call:x1lo) (hs:FHs) (args:List AV) (m:Mem):O2:=
 match args with
 | [t0,t1]=>xgz call hs m.next t0 t1 ⟨m.hp,m.next+1⟩ 0
 | _=>none
noncomputable def x9q (call:x1lo) (hs:FHs) (args:List AV) (m:Mem):O2:=
 match args with
 | [t0,t1,t2,t3]=>x9i call hs m.next t0 t1 t2 t3 ⟨m.hp,m.next+1⟩ 0
 | _=>none
noncomputable def x77 (call:x1lo) (hs:FHs) (args:List AV) (m:Mem):O2:=
 match args with
 | [t0,t1]=>xh0 call hs m.next t0 t1 ⟨m.hp,m.next+1⟩ 0
 | _=>none
noncomputable def xf0 (call:x1lo) (hs:FHs) (args:List AV) (m:Mem):O2:=
 match args with
 | [t0,t1]=>xm7 call hs m.next t0 t1 ⟨m.hp,m.next+1⟩ 0
 | _=>none
noncomputable def x74 (call:x1lo) (hs:FHs) (args:List AV) (m:Mem):O2:=
 match args with
 | [t0,t1,t2]=>xh1 call hs m.next t0 t1 t2 ⟨m.hp,m.next+1⟩ 0
 | _=>none
noncomputable def xf1 (call:x1lo) (hs:FHs) (args:List AV) (m:Mem):O2:=
 match args with
 | [t0,t1]=>xm8 call hs m.next t0 t1 ⟨m.hp,m.next+1⟩ 0
 | _=>none
noncomputable def xde (call:x1lo) (hs:FHs) (args:List AV) (m:Mem):O2:=
 match args with
 | [t0,t1]=>xm9 call hs m.next t0 t1 ⟨m.hp,m.next+1⟩ 0
 | _=>none
end Go.Ix
