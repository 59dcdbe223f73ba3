import Derived.Test.YtljibmnhhdiakaaFxText0
import Derived.Test.YtljibmnhhdiakaaFxText1
set_option linter.unusedVariables false
namespace Go.Ix
open Go.Proofs
noncomputable def xfi (call:x1p9) (hs:FHs) (args:List AV) (m:Mem):O2:=
 match args with
 | [t0]=>xlx call hs m.next t0 ⟨m.hp,m.next+1⟩ 0
 | _=>none
noncomputable def xfj (call:x1p9) (hs:FHs) (args:List AV) (m:Mem):O2:=
 match args with
 | [t0]=>xly call hs m.next t0 ⟨m.hp,m.next+1⟩ 0
 | _=>none
noncomputable def xfk (call:x1p9) (hs:FHs) (args:List AV) (m:Mem):O2:=
 match args with
 | [t0,t1,t2]=>xm0 call hs m.next t0 t1 t2 ⟨m.hp,m.next+1⟩ 0
 | _=>none
noncomputable def x8e (call:x1p9) (hs:FHs) (args:List AV) (m:Mem):O2:=
 match args with
 | [t0]=>xgr call hs m.next t0 ⟨m.hp,m.next+1⟩ 0
 | _=>none
noncomputable def xfl (call:x1p9) (hs:FHs) (args:List AV) (m:Mem):O2:=
 match args with
 | [t0,t1]=>xm1 call hs m.next t0 t1 ⟨m.hp,m.next+1⟩ 0
 | _=>none
noncomputable def xfm (call:x1p9) (hs:FHs) (args:List AV) (m:Mem):O2:=
 match args with
 | [t0,t1,t2]=>xm2 call hs m.next t0 t1 t2 ⟨m.hp,m.next+1⟩ 0
 | _=>none
noncomputable def xfn (call:x1p9) (hs:FHs) (args:List AV) (m:Mem):O2:=
 match args with
 | [t0,t1]=>xm3 call hs m.next t0 t1 ⟨m.hp,m.next+1⟩ 0
 | _=>none
noncomputable def xfo (call:x1p9) (hs:FHs) (args:List AV) (m:Mem):O2:=
 match args with
 | []=>xm4 call hs m.next ⟨m.hp,m.next+1⟩ 0
 | _=>none
noncomputable def xfp (call:x1p9) (hs:FHs) (args:List AV) (m:Mem):O2:=
 match args with
 | [t0]=>xm6 call hs m.next t0 ⟨m.hp,m.next+1⟩ 0
 | _=>none
noncomputable def xfq (call:x1p9) (hs:FHs) (args:List AV) (m:Mem):O2:=
 match args with
 | [t0]=>xm7 call hs m.next t0 ⟨m.hp,m.next+1⟩ 0
 | _=>none
noncomputable def xfr (call:x1p9) (hs:FHs) (args:List AV) (m:Mem):O2:=
 match args with
 | [t0]=>xm8 call hs m.next t0 ⟨m.hp,m.next+1⟩ 0
 | _=>none
noncomputable def xfs (call:x1p9) (hs:FHs) (args:List AV) (m:Mem):O2:=
 match args with
 | [t0]=>xm9 call hs m.next t0 ⟨m.hp,m.next+1⟩ 0
 | _=>none
noncomputable def xft (call:x1p9) (hs:FHs) (args:List AV) (m:Mem):O2:=
 match args with
 | [t0,t1]=>xmb call hs m.next t0 t1 ⟨m.hp,m.next+1⟩ 0
 | _=>none
noncomputable def x8f (call:x1p9) (hs:FHs) (args:List AV) (m:Mem):O2:=
 match args with
 | [t0,t1]=>xgx call hs m.next t0 t1 ⟨m.hp,m.next+1⟩ 0
 | _=>none
noncomputable def x8g (call:x1p9) (hs:FHs) (args:List AV) (m:Mem):O2:=
 match args with
 | [t0]=>xgy call hs m.next t0 ⟨m.hp,m.next+1⟩ 0
 | _=>none
noncomputable def x8h (call:x1p9) (hs:FHs) (args:List AV) (m:Mem):O2:=
 match args with
 | [t0]=>xgz call hs m.next t0 ⟨m.hp,m.next+1⟩ 0
 | _=>none
noncomputable def xbj (call:x1p9) (hs:FHs) (args:List AV) (m:Mem):O2:=
 match args with
 | [t0,t1]=>xmc call hs m.next t0 t1 ⟨m.hp,m.next+1⟩ 0
 | _=>none
noncomputable def x8i (call:x1p9) (hs:FHs) (args:List AV) (m:Mem):O2:=
 match args with
 | [t0]=>xh1 call hs m.next t0 ⟨m.hp,m.next+1⟩ 0
 | _=>none
noncomputable def xfu (call:x1p9) (hs:FHs) (args:List AV) (m:Mem):O2:=
 match args with
 | [t0]=>xmd call hs m.next t0 ⟨m.hp,m.next+1⟩ 0
 | _=>none
noncomputable def x8k (call:x1p9) (hs:FHs) (args:List AV) (m:Mem):O2:=
 match args with
 | [t0]=>xh2 call hs m.next t0 ⟨m.hp,m.next+1⟩ 0
 | _=>none
noncomputable def x8l (call:x1p9) (hs:FHs) (args:List AV) (m:Mem):O2:=
 match args with
 | [t0]=>xh3 call hs m.next t0 ⟨m.hp,m.next+1⟩ 0
 | _=>none
noncomputable def x8m (call:x1p9) (hs:FHs) (args:List AV) (m:Mem):O2:=
 match args with
 | [t0]=>xh4 call hs m.next t0 ⟨m.hp,m.next+1⟩ 0
 | _=>none
noncomputable def xfv (call:x1p9) (hs:FHs) (args:List AV) (m:Mem):O2:=
 match args with
 | [t0,t1]=>xmf call hs m.next t0 t1 ⟨m.hp,m.next+1⟩ 0
 | _=>none
noncomputable def x8n (call:x1p9) (hs:FHs) (args:List AV) (m:Mem):O2:=
 match args with
 | [t0]=>xh6 call hs m.next t0 ⟨m.hp,m.next+1⟩ 0
 | _=>none
noncomputable def xfw (call:x1p9) (hs:FHs) (args:List AV) (m:Mem):O2:=
 match args with
 | [t0,t1,t2]=>xmg call hs m.next t0 t1 t2 ⟨m.hp,m.next+1⟩ 0
 | _=>none
noncomputable def x8p (call:x1p9) (hs:FHs) (args:List AV) (m:Mem):O2:=
 match args with
 | [t0,t1]=>xh7 call hs m.next t0 t1 ⟨m.hp,m.next+1⟩ 0
 | _=>none
noncomputable def x8q (call:x1p9) (hs:FHs) (args:List AV) (m:Mem):O2:=
 match args with
 | [t0,t1,t2]=>xh8 call hs m.next t0 t1 t2 ⟨m.hp,m.next+1⟩ 0
 | _=>none
noncomputable def x8r (call:x1p9) (hs:FHs) (args:List AV) (m:Mem):O2:=
 match args with
 | [t0]=>xh9 call hs m.next t0 ⟨m.hp,m.next+1⟩ 0
 | _=>none
noncomputable def xfx (call:x1p9) (hs:FHs) (args:List AV) (m:Mem):O2:=
 match args with
 | [t0,t1]=>xmh call hs m.next t0 t1 ⟨m.hp,m.next+1⟩ 0
 | _=>none
noncomputable def x5r (call:x1p9) (hs:FHs) (args:List AV) (m:Mem):O2:=
 match args with
 | [t0]=>xae call hs m.next t0 ⟨m.hp,m.next+1⟩ 0
 | _=>none
noncomputable def xfy (call:x1p9) (hs:FHs) (args:List AV) (m:Mem):O2:=
 match args with
 | [t0]=>xmi call hs m.next t0 ⟨m.hp,m.next+1⟩ 0
 | _=>none
noncomputable def x8t (call:x1p9) (hs:FHs) (args:List AV) (m:Mem):O2:=
 match args with
 | [t0]=>xah call hs m.next t0 ⟨m.hp,m.next+1⟩ 0
 | _=>none
noncomputable def x8u (call:x1p9) (hs:FHs) (args:List AV) (m:Mem):O2:=
 match args with
 | [t0,t1]=>xha call hs m.next t0 t1 ⟨m.hp,m.next+1⟩ 0
 | _=>none
noncomputable def x8v (call:x1p9) (hs:FHs) (args:List AV) (m:Mem):O2:=
 match args with
 | [t0,t1]=>xhb call hs m.next t0 t1 ⟨m.hp,m.next+1⟩ 0
 | _=>none
noncomputable def x8w (call:x1p9) (hs:FHs) (args:List AV) (m:Mem):O2:=
 match args with
 | [t0,t1]=>xhc call hs m.next t0 t1 ⟨m.hp,m.next+1⟩ 0
 | _=>none
noncomputable def xfz (call:x1p9) (hs:FHs) (args:List AV) (m:Mem):O2:=
 match args with
 | [t0,t1]=>xmj call hs m.next t0 t1 ⟨m.hp,m.next+1⟩ 0
 | _=>none
noncomputable def xg0 (call:x1p9) (hs:FHs) (args:List AV) (m:Mem):O2:=
 match args with
 | [t0,t1]=>xml call hs m.next t0 t1 ⟨m.hp,m.next+1⟩ 0
 | _=>none
noncomputable def x8y (call:x1p9) (hs:FHs) (args:List AV) (m:Mem):O2:=
 match args with
 | [t0]=>xhf call hs m.next t0 ⟨m.hp,m.next+1⟩ 0
 | _=>none
noncomputable def xg1 (call:x1p9) (hs:FHs) (args:List AV) (m:Mem):O2:=
 match args with
 | [t0]=>xmm call hs m.next t0 ⟨m.hp,m.next+1⟩ 0
 | _=>none
noncomputable def xg2 (call:x1p9) (hs:FHs) (args:List AV) (m:Mem):O2:=
 match args with
 | [t0,t1]=>xmo call hs m.next t0 t1 ⟨m.hp,m.next+1⟩ 0
 | _=>none
noncomputable def x6n (call:x1p9) (hs:FHs) (args:List AV) (m:Mem):O2:=
 match args with
 | [t0,t1]=>xcn call hs m.next t0 t1 ⟨m.hp,m.next+1⟩ 0
 | _=>none
noncomputable def x91 (call:x1p9) (hs:FHs) (args:List AV) (m:Mem):O2:=
 match args with
 | [t0,t1]=>xhi call hs m.next t0 t1 ⟨m.hp,m.next+1⟩ 0
 | _=>none
noncomputable def xg3 (call:x1p9) (hs:FHs) (args:List AV) (m:Mem):O2:=
 match args with
 | [t0]=>xmp call hs m.next t0 ⟨m.hp,m.next+1⟩ 0
 | _=>none
noncomputable def xg4 (call:x1p9) (hs:FHs) (args:List AV) (m:Mem):O2:=
 match args with
 | [t0]=>xmq call hs m.next t0 ⟨m.hp,m.next+1⟩ 0
 | _=>none
noncomputable def xg5 (call:x1p9) (hs:FHs) (args:List AV) (m:Mem):O2:=
 match args with
 | [t0]=>xmr call hs m.next t0 ⟨m.hp,m.next+1⟩ 0
 | _=>none
noncomputable def x93 (call:x1p9) (hs:FHs) (args:List AV) (m:Mem):O2:=
 match args with
 | [t0]=>xhk call hs m.next t0 ⟨m.hp,m.next+1⟩ 0
 | _=>none
noncomputable def xg6 (call:x1p9) (hs:FHs) (args:List AV) (m:Mem):O2:=
 match args with
 | [t0]=>xms call hs m.next t0 ⟨m.hp,m.next+1⟩ 0
 | _=>none
noncomputable def xbk (call:x1p9) (hs:FHs) (args:List AV) (m:Mem):O2:=
 match args with
 | [t0]=>xcu call hs m.next t0 ⟨m.hp,m.next+1⟩ 0
 | _=>none
noncomputable def x94 (call:x1p9) (hs:FHs) (args:List AV) (m:Mem):O2:=
 match args with
 | [t0,t1]=>xhm call hs m.next t0 t1 ⟨m.hp,m.next+1⟩ 0
 | _=>none
noncomputable def xg7 (call:x1p9) (hs:FHs) (args:List AV) (m:Mem):O2:=
 match args with
 | [t0]=>xmu call hs m.next t0 ⟨m.hp,m.next+1⟩ 0
 | _=>none
noncomputable def x96 (call:x1p9) (hs:FHs) (args:List AV) (m:Mem):O2:=
 match args with
 | [t0,t1]=>xho call hs m.next t0 t1 ⟨m.hp,m.next+1⟩ 0
 | _=>none
noncomputable def x97 (call:x1p9) (hs:FHs) (args:List AV) (m:Mem):O2:=
 match args with
 | [t0]=>xhp call hs m.next t0 ⟨m.hp,m.next+1⟩ 0
 | _=>none
noncomputable def x98 (call:x1p9) (hs:FHs) (args:List AV) (m:Mem):O2:=
 match args with
 | [t0]=>xhq call hs m.next t0 ⟨m.hp,m.next+1⟩ 0
 | _=>none
noncomputable def x99 (call:x1p9) (hs:FHs) (args:List AV) (m:Mem):O2:=
 match args with
 | [t0,t1,t2]=>xhr call hs m.next t0 t1 t2 ⟨m.hp,m.next+1⟩ 0
 | _=>none
noncomputable def x9a (call:x1p9) (hs:FHs) (args:List AV) (m:Mem):O2:=
 match args with
 | [t0]=>xhs call hs m.next t0 ⟨m.hp,m.next+1⟩ 0
 | _=>none
noncomputable def x9b (call:x1p9) (hs:FHs) (args:List AV) (m:Mem):O2:=
 match args with
 | [t0,t1,t2]=>xht call hs m.next t0 t1 t2 ⟨m.hp,m.next+1⟩ 0
 | _=>none
noncomputable def x9c (call:x1p9) (hs:FHs) (args:List AV) (m:Mem):O2:=
 match args with
 | [t0,t1]=>xhu call hs m.next t0 t1 ⟨m.hp,m.next+1⟩ 0
 | _=>none
noncomputable def x9d (call:x1p9) (hs:FHs) (args:List AV) (m:Mem):O2:=
 match args with
 | [t0]=>xhv call hs m.next t0 ⟨m.hp,m.next+1⟩ 0
 | _=>none
noncomputable def x9e (call:x1p9) (hs:FHs) (args:List AV) (m:Mem):O2:=
 match args with
 | [t0]=>xhx call hs m.next t0 ⟨m.hp,m.next+1⟩ 0
 | _=>none
noncomputable def x9f (call:x1p9) (hs:FHs) (args:List AV) (m:Mem):O2:=
 match args with
 | [t0]=>xhy call hs m.next t0 ⟨m.hp,m.next+1⟩ 0
 | _=>none
noncomputable def x9g (call:x1p9) (hs:FHs) (args:List AV) (m:Mem):O2:=
 match args with
 | [t0,t1,t2,t3]=>xhz call hs m.next t0 t1 t2 t3 ⟨m.hp,m.next+1⟩ 0
 | _=>none
noncomputable def x84 (call:x1p9) (hs:FHs) (args:List AV) (m:Mem):O2:=
 match args with
 | [t0,t1,t2]=>xi0 call hs m.next t0 t1 t2 ⟨m.hp,m.next+1⟩ 0
 | _=>none
noncomputable def xbl (call:x1p9) (hs:FHs) (args:List AV) (m:Mem):O2:=
 match args with
 | [t0]=>xda call hs m.next t0 ⟨m.hp,m.next+1⟩ 0
 | _=>none
noncomputable def xg8 (call:x1p9) (hs:FHs) (args:List AV) (m:Mem):O2:=
 match args with
 | [t0,t1]=>xmw call hs m.next t0 t1 ⟨m.hp,m.next+1⟩ 0
 | _=>none
noncomputable def xg9 (call:x1p9) (hs:FHs) (args:List AV) (m:Mem):O2:=
 match args with
 | [t0]=>xmy call hs m.next t0 ⟨m.hp,m.next+1⟩ 0
 | _=>none
noncomputable def x9i (call:x1p9) (hs:FHs) (args:List AV) (m:Mem):O2:=
 match args with
 | [t0,t1]=>xi5 call hs m.next t0 t1 ⟨m.hp,m.next+1⟩ 0
 | _=>none
noncomputable def x6q (call:x1p9) (hs:FHs) (args:List AV) (m:Mem):O2:=
 match args with
 | [t0,t1]=>xdi call hs m.next t0 t1 ⟨m.hp,m.next+1⟩ 0
 | _=>none
noncomputable def xga (call:x1p9) (hs:FHs) (args:List AV) (m:Mem):O2:=
 match args with
 | [t0]=>xn0 call hs m.next t0 ⟨m.hp,m.next+1⟩ 0
 | _=>none
noncomputable def xbm (call:x1p9) (hs:FHs) (args:List AV) (m:Mem):O2:=
 match args with
 | [t0]=>xdj call hs m.next t0 ⟨m.hp,m.next+1⟩ 0
 | _=>none
noncomputable def x8a (call:x1p9) (hs:FHs) (args:List AV) (m:Mem):O2:=
 match args with
 | [t0]=>xi6 call hs m.next t0 ⟨m.hp,m.next+1⟩ 0
 | _=>none
noncomputable def x9k (call:x1p9) (hs:FHs) (args:List AV) (m:Mem):O2:=
 match args with
 | [t0,t1]=>xi7 call hs m.next t0 t1 ⟨m.hp,m.next+1⟩ 0
 | _=>none
noncomputable def xgb (call:x1p9) (hs:FHs) (args:List AV) (m:Mem):O2:=
 match args with
 | [t0,t1]=>xn1 call hs m.next t0 t1 ⟨m.hp,m.next+1⟩ 0
 | _=>none
noncomputable def xgc (call:x1p9) (hs:FHs) (args:List AV) (m:Mem):O2:=
 match args with
 | [t0,t1,t2]=>xn2 call hs m.next t0 t1 t2 ⟨m.hp,m.next+1⟩ 0
 | _=>none
noncomputable def x89 (call:x1p9) (hs:FHs) (args:List AV) (m:Mem):O2:=
 match args with
 | [t0]=>xi8 call hs m.next t0 ⟨m.hp,m.next+1⟩ 0
 | _=>none
noncomputable def xgd (call:x1p9) (hs:FHs) (args:List AV) (m:Mem):O2:=
 match args with
 | [t0,t1,t2]=>xn3 call hs m.next t0 t1 t2 ⟨m.hp,m.next+1⟩ 0
 | _=>none
noncomputable def xge (call:x1p9) (hs:FHs) (args:List AV) (m:Mem):O2:=
 match args with
 | [t0,t1,t2]=>xn4 call hs m.next t0 t1 t2 ⟨m.hp,m.next+1⟩ 0
 | _=>none
noncomputable def xgf (call:x1p9) (hs:FHs) (args:List AV) (m:Mem):O2:=
 match args with
 | [t0,t1]=>xn6 call hs m.next t0 t1 ⟨m.hp,m.next+1⟩ 0
 | _=>none
noncomputable def x8b (call:x1p9) (hs:FHs) (args:List AV) (m:Mem):O2:=
 match args with
 | [t0,t1]=>xib call hs m.next t0 t1 ⟨m.hp,m.next+1⟩ 0
 | _=>none
noncomputable def x9p (call:x1p9) (hs:FHs) (args:List AV) (m:Mem):O2:=
 match args with
 | [t0]=>xic call hs m.next t0 ⟨m.hp,m.next+1⟩ 0
 | _=>none
noncomputable def x9q (call:x1p9) (hs:FHs) (args:List AV) (m:Mem):O2:=
 match args with
 | [t0,t1]=>xid call hs m.next t0 t1 ⟨m.hp,m.next+1⟩ 0
 | _=>none
noncomputable def x9r (call:x1p9) (hs:FHs) (args:List AV) (m:Mem):O2:=
 match args with
 | [t0,t1]=>xie call hs m.next t0 t1 ⟨m.hp,m.next+1⟩ 0
 | _=>none
noncomputable def xgg (call:x1p9) (hs:FHs) (args:List AV) (m:Mem):O2:=
 match args with
 | [t0,t1]=>xn7 call hs m.next t0 t1 ⟨m.hp,m.next+1⟩ 0
 | _=>none
noncomputable def xgh (call:x1p9) (hs:FHs) (args:List AV) (m:Mem):O2:=
 match args with
 | [t0]=>xn9 call hs m.next t0 ⟨m.hp,m.next+1⟩ 0
 | _=>none
noncomputable def x9u (call:x1p9) (hs:FHs) (args:List AV) (m:Mem):O2:=
 match args with
 | [t0]=>xig call hs m.next t0 ⟨m.hp,m.next+1⟩ 0
 | _=>none
noncomputable def x5o (call:x1p9) (hs:FHs) (args:List AV) (m:Mem):O2:=
 match args with
 | [t0,t1]=>xat call hs m.next t0 t1 ⟨m.hp,m.next+1⟩ 0
 | _=>none
noncomputable def x8d (call:x1p9) (hs:FHs) (args:List AV) (m:Mem):O2:=
 match args with
 | [t0]=>xih call hs m.next t0 ⟨m.hp,m.next+1⟩ 0
 | _=>none
noncomputable def x9v (call:x1p9) (hs:FHs) (args:List AV) (m:Mem):O2:=
 match args with
 | [t0,t1]=>xii call hs m.next t0 t1 ⟨m.hp,m.next+1⟩ 0
 | _=>none
noncomputable def x8c (call:x1p9) (hs:FHs) (args:List AV) (m:Mem):O2:=
 match args with
 | [t0]=>xij call hs m.next t0 ⟨m.hp,m.next+1⟩ 0
 | _=>none
noncomputable def x9w (call:x1p9) (hs:FHs) (args:List AV) (m:Mem):O2:=
 match args with
 | [t0,t1]=>xik call hs m.next t0 t1 ⟨m.hp,m.next+1⟩ 0
 | _=>none
noncomputable def x9x (call:x1p9) (hs:FHs) (args:List AV) (m:Mem):O2:=
 match args with
 | [t0]=>xil call hs m.next t0 ⟨m.hp,m.next+1⟩ 0
 | _=>none
noncomputable def x9y (call:x1p9) (hs:FHs) (args:List AV) (m:Mem):O2:=
 match args with
 | [t0,t1]=>xim call hs m.next t0 t1 ⟨m.hp,m.next+1⟩ 0
 | _=>none
noncomputable def x6s (call:x1p9) (hs:FHs) (args:List AV) (m:Mem):O2:=
 match args with
 | [t0,t1]=>xdx call hs m.next t0 t1 ⟨m.hp,m.next+1⟩ 0
 | _=>none
noncomputable def x9z (call:x1p9) (hs:FHs) (args:List AV) (m:Mem):O2:=
 match args with
 | [t0]=>xin call hs m.next t0 ⟨m.hp,m.next+1⟩ 0
 | _=>none
noncomputable def xa0 (call:x1p9) (hs:FHs) (args:List AV) (m:Mem):O2:=
 match args with
 | [t0,t1]=>xio call hs m.next t0 t1 ⟨m.hp,m.next+1⟩ 0
 | _=>none
noncomputable def xbc (call:x1p9) (hs:FHs) (args:List AV) (m:Mem):O2:=
 match args with
 | [t0,t1,t2]=>xe0 call hs m.next t0 t1 t2 ⟨m.hp,m.next+1⟩ 0
 | _=>none
noncomputable def x85 (call:x1p9) (hs:FHs) (args:List AV) (m:Mem):O2:=
 match args with
 | [t0,t1]=>xip call hs m.next t0 t1 ⟨m.hp,m.next+1⟩ 0
 | _=>none
noncomputable def xfh (call:x1p9) (hs:FHs) (args:List AV) (m:Mem):O2:=
 match args with
 | [t0,t1,t2,t3]=>xnd call hs m.next t0 t1 t2 t3 ⟨m.hp,m.next+1⟩ 0
 | _=>none
noncomputable def xa1 (call:x1p9) (hs:FHs) (args:List AV) (m:Mem):O2:=
 match args with
 | [t0,t1]=>xir call hs m.next t0 t1 ⟨m.hp,m.next+1⟩ 0
 | _=>none
noncomputable def xa2 (call:x1p9) (hs:FHs) (args:List AV) (m:Mem):O2:=
 match args with
 | [t0]=>xis call hs m.next t0 ⟨m.hp,m.next+1⟩ 0
 | _=>none
noncomputable def xgi (call:x1p9) (hs:FHs) (args:List AV) (m:Mem):O2:=
 match args with
 | [t0,t1]=>xnf call hs m.next t0 t1 ⟨m.hp,m.next+1⟩ 0
 | _=>none
noncomputable def xa3 (call:x1p9) (hs:FHs) (args:List AV) (m:Mem):O2:=
 match args with
 | [t0,t1,t2]=>xiv call hs m.next t0 t1 t2 ⟨m.hp,m.next+1⟩ 0
 | _=>none
noncomputable def xa4 (call:x1p9) (hs:FHs) (args:List AV) (m:Mem):O2:=
 match args with
 | [t0,t1]=>xiw call hs m.next t0 t1 ⟨m.hp,m.next+1⟩ 0
 | _=>none
noncomputable def xbb (call:x1p9) (hs:FHs) (args:List AV) (m:Mem):O2:=
 match args with
 | [t0,t1,t2,t3]=>xb3 call hs m.next t0 t1 t2 t3 ⟨m.hp,m.next+1⟩ 0
 | _=>none
noncomputable def x86 (call:x1p9) (hs:FHs) (args:List AV) (m:Mem):O2:=
 match args with
 | [t0,t1]=>xix call hs m.next t0 t1 ⟨m.hp,m.next+1⟩ 0
 | _=>none
noncomputable def xgj (call:x1p9) (hs:FHs) (args:List AV) (m:Mem):O2:=
 match args with
 | [t0]=>xng call hs m.next t0 ⟨m.hp,m.next+1⟩ 0
 | _=>none
noncomputable def xgk (call:x1p9) (hs:FHs) (args:List AV) (m:Mem):O2:=
 match args with
 | [t0,t1]=>xnh call hs m.next t0 t1 ⟨m.hp,m.next+1⟩ 0
 | _=>none
noncomputable def x83 (call:x1p9) (hs:FHs) (args:List AV) (m:Mem):O2:=
 match args with
 | [t0,t1,t2]=>xiy call hs m.next t0 t1 t2 ⟨m.hp,m.next+1⟩ 0
 | _=>none
noncomputable def xgl (call:x1p9) (hs:FHs) (args:List AV) (m:Mem):O2:=
 match args with
 | [t0,t1]=>xni call hs m.next t0 t1 ⟨m.hp,m.next+1⟩ 0
 | _=>none
noncomputable def xfg (call:x1p9) (hs:FHs) (args:List AV) (m:Mem):O2:=
 match args with
 | [t0,t1]=>xnj call hs m.next t0 t1 ⟨m.hp,m.next+1⟩ 0
 | _=>none
end Go.Ix
