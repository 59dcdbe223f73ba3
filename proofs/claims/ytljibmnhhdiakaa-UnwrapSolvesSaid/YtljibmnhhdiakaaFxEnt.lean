import Derived.Test.YtljibmnhhdiakaaFxText0
set_option linter.unusedVariables false
namespace Go.Ix
open Go.Proofs
noncomputable def x6s (call : x1ic) (hs : FHs) (args : List AV) (m : Mem) : O2 :=
 match args with
 | [t0] => xe5 call hs m.next t0 ⟨m.hp, m.next + 1⟩ 0
 | _ => none
noncomputable def xco (call : x1ic) (hs : FHs) (args : List AV) (m : Mem) : O2 :=
 match args with
 | [t0, t1, t2] => xis call hs m.next t0 t1 t2 ⟨m.hp, m.next + 1⟩ 0
 | _ => none
noncomputable def xcp (call : x1ic) (hs : FHs) (args : List AV) (m : Mem) : O2 :=
 match args with
 | [t0, t1] => xit call hs m.next t0 t1 ⟨m.hp, m.next + 1⟩ 0
 | _ => none
noncomputable def xcq (call : x1ic) (hs : FHs) (args : List AV) (m : Mem) : O2 :=
 match args with
 | [t0, t1, t2] => xiu call hs m.next t0 t1 t2 ⟨m.hp, m.next + 1⟩ 0
 | _ => none
noncomputable def xcr (call : x1ic) (hs : FHs) (args : List AV) (m : Mem) : O2 :=
 match args with
 | [t0, t1] => xiv call hs m.next t0 t1 ⟨m.hp, m.next + 1⟩ 0
 | _ => none
noncomputable def xcs (call : x1ic) (hs : FHs) (args : List AV) (m : Mem) : O2 :=
 match args with
 | [] => xiw call hs m.next ⟨m.hp, m.next + 1⟩ 0
 | _ => none
noncomputable def x6t (call : x1ic) (hs : FHs) (args : List AV) (m : Mem) : O2 :=
 match args with
 | [t0] => xeb call hs m.next t0 ⟨m.hp, m.next + 1⟩ 0
 | _ => none
noncomputable def x6u (call : x1ic) (hs : FHs) (args : List AV) (m : Mem) : O2 :=
 match args with
 | [t0] => x88 call hs m.next t0 ⟨m.hp, m.next + 1⟩ 0
 | _ => none
noncomputable def x52 (call : x1ic) (hs : FHs) (args : List AV) (m : Mem) : O2 :=
 match args with
 | [t0] => x9l call hs m.next t0 ⟨m.hp, m.next + 1⟩ 0
 | _ => none
noncomputable def x6v (call : x1ic) (hs : FHs) (args : List AV) (m : Mem) : O2 :=
 match args with
 | [t0] => xec call hs m.next t0 ⟨m.hp, m.next + 1⟩ 0
 | _ => none
noncomputable def x6w (call : x1ic) (hs : FHs) (args : List AV) (m : Mem) : O2 :=
 match args with
 | [t0, t1] => xed call hs m.next t0 t1 ⟨m.hp, m.next + 1⟩ 0
 | _ => none
noncomputable def x6x (call : x1ic) (hs : FHs) (args : List AV) (m : Mem) : O2 :=
 match args with
 | [t0, t1] => xee call hs m.next t0 t1 ⟨m.hp, m.next + 1⟩ 0
 | _ => none
noncomputable def x6y (call : x1ic) (hs : FHs) (args : List AV) (m : Mem) : O2 :=
 match args with
 | [t0] => xef call hs m.next t0 ⟨m.hp, m.next + 1⟩ 0
 | _ => none
noncomputable def x6z (call : x1ic) (hs : FHs) (args : List AV) (m : Mem) : O2 :=
 match args with
 | [t0] => xeg call hs m.next t0 ⟨m.hp, m.next + 1⟩ 0
 | _ => none
noncomputable def x97 (call : x1ic) (hs : FHs) (args : List AV) (m : Mem) : O2 :=
 match args with
 | [t0, t1] => xix call hs m.next t0 t1 ⟨m.hp, m.next + 1⟩ 0
 | _ => none
noncomputable def xct (call : x1ic) (hs : FHs) (args : List AV) (m : Mem) : O2 :=
 match args with
 | [t0] => xj0 call hs m.next t0 ⟨m.hp, m.next + 1⟩ 0
 | _ => none
noncomputable def xcu (call : x1ic) (hs : FHs) (args : List AV) (m : Mem) : O2 :=
 match args with
 | [t0] => xj1 call hs m.next t0 ⟨m.hp, m.next + 1⟩ 0
 | _ => none
noncomputable def xcv (call : x1ic) (hs : FHs) (args : List AV) (m : Mem) : O2 :=
 match args with
 | [t0] => xj4 call hs m.next t0 ⟨m.hp, m.next + 1⟩ 0
 | _ => none
noncomputable def xcw (call : x1ic) (hs : FHs) (args : List AV) (m : Mem) : O2 :=
 match args with
 | [t0] => xj6 call hs m.next t0 ⟨m.hp, m.next + 1⟩ 0
 | _ => none
noncomputable def xcx (call : x1ic) (hs : FHs) (args : List AV) (m : Mem) : O2 :=
 match args with
 | [t0, t1] => xj8 call hs m.next t0 t1 ⟨m.hp, m.next + 1⟩ 0
 | _ => none
noncomputable def xcy (call : x1ic) (hs : FHs) (args : List AV) (m : Mem) : O2 :=
 match args with
 | [t0, t1, t2] => xj9 call hs m.next t0 t1 t2 ⟨m.hp, m.next + 1⟩ 0
 | _ => none
noncomputable def xcz (call : x1ic) (hs : FHs) (args : List AV) (m : Mem) : O2 :=
 match args with
 | [t0, t1] => xjb call hs m.next t0 t1 ⟨m.hp, m.next + 1⟩ 0
 | _ => none
noncomputable def x72 (call : x1ic) (hs : FHs) (args : List AV) (m : Mem) : O2 :=
 match args with
 | [t0, t1, t2] => xen call hs m.next t0 t1 t2 ⟨m.hp, m.next + 1⟩ 0
 | _ => none
noncomputable def x73 (call : x1ic) (hs : FHs) (args : List AV) (m : Mem) : O2 :=
 match args with
 | [t0] => xeo call hs m.next t0 ⟨m.hp, m.next + 1⟩ 0
 | _ => none
noncomputable def xd0 (call : x1ic) (hs : FHs) (args : List AV) (m : Mem) : O2 :=
 match args with
 | [t0, t1] => xjc call hs m.next t0 t1 ⟨m.hp, m.next + 1⟩ 0
 | _ => none
noncomputable def x74 (call : x1ic) (hs : FHs) (args : List AV) (m : Mem) : O2 :=
 match args with
 | [t0] => xep call hs m.next t0 ⟨m.hp, m.next + 1⟩ 0
 | _ => none
noncomputable def xd1 (call : x1ic) (hs : FHs) (args : List AV) (m : Mem) : O2 :=
 match args with
 | [t0] => xjd call hs m.next t0 ⟨m.hp, m.next + 1⟩ 0
 | _ => none
noncomputable def xd2 (call : x1ic) (hs : FHs) (args : List AV) (m : Mem) : O2 :=
 match args with
 | [t0] => xjf call hs m.next t0 ⟨m.hp, m.next + 1⟩ 0
 | _ => none
noncomputable def xd3 (call : x1ic) (hs : FHs) (args : List AV) (m : Mem) : O2 :=
 match args with
 | [t0, t1] => xjg call hs m.next t0 t1 ⟨m.hp, m.next + 1⟩ 0
 | _ => none
noncomputable def xd4 (call : x1ic) (hs : FHs) (args : List AV) (m : Mem) : O2 :=
 match args with
 | [t0, t1] => xji call hs m.next t0 t1 ⟨m.hp, m.next + 1⟩ 0
 | _ => none
noncomputable def xd5 (call : x1ic) (hs : FHs) (args : List AV) (m : Mem) : O2 :=
 match args with
 | [t0] => xjj call hs m.next t0 ⟨m.hp, m.next + 1⟩ 0
 | _ => none
noncomputable def xd6 (call : x1ic) (hs : FHs) (args : List AV) (m : Mem) : O2 :=
 match args with
 | [t0] => xjk call hs m.next t0 ⟨m.hp, m.next + 1⟩ 0
 | _ => none
noncomputable def xd7 (call : x1ic) (hs : FHs) (args : List AV) (m : Mem) : O2 :=
 match args with
 | [t0, t1] => xjm call hs m.next t0 t1 ⟨m.hp, m.next + 1⟩ 0
 | _ => none
noncomputable def x7a (call : x1ic) (hs : FHs) (args : List AV) (m : Mem) : O2 :=
 match args with
 | [t0, t1] => xew call hs m.next t0 t1 ⟨m.hp, m.next + 1⟩ 0
 | _ => none
noncomputable def xd8 (call : x1ic) (hs : FHs) (args : List AV) (m : Mem) : O2 :=
 match args with
 | [t0] => xjn call hs m.next t0 ⟨m.hp, m.next + 1⟩ 0
 | _ => none
noncomputable def xd9 (call : x1ic) (hs : FHs) (args : List AV) (m : Mem) : O2 :=
 match args with
 | [t0] => xjo call hs m.next t0 ⟨m.hp, m.next + 1⟩ 0
 | _ => none
noncomputable def xda (call : x1ic) (hs : FHs) (args : List AV) (m : Mem) : O2 :=
 match args with
 | [t0] => xjp call hs m.next t0 ⟨m.hp, m.next + 1⟩ 0
 | _ => none
noncomputable def x7c (call : x1ic) (hs : FHs) (args : List AV) (m : Mem) : O2 :=
 match args with
 | [t0] => xey call hs m.next t0 ⟨m.hp, m.next + 1⟩ 0
 | _ => none
noncomputable def x7d (call : x1ic) (hs : FHs) (args : List AV) (m : Mem) : O2 :=
 match args with
 | [t0] => xez call hs m.next t0 ⟨m.hp, m.next + 1⟩ 0
 | _ => none
noncomputable def x9b (call : x1ic) (hs : FHs) (args : List AV) (m : Mem) : O2 :=
 match args with
 | [t0] => xa7 call hs m.next t0 ⟨m.hp, m.next + 1⟩ 0
 | _ => none
noncomputable def x7e (call : x1ic) (hs : FHs) (args : List AV) (m : Mem) : O2 :=
 match args with
 | [t0, t1] => xf1 call hs m.next t0 t1 ⟨m.hp, m.next + 1⟩ 0
 | _ => none
noncomputable def x7f (call : x1ic) (hs : FHs) (args : List AV) (m : Mem) : O2 :=
 match args with
 | [t0] => xf2 call hs m.next t0 ⟨m.hp, m.next + 1⟩ 0
 | _ => none
noncomputable def x7g (call : x1ic) (hs : FHs) (args : List AV) (m : Mem) : O2 :=
 match args with
 | [t0, t1] => xf3 call hs m.next t0 t1 ⟨m.hp, m.next + 1⟩ 0
 | _ => none
noncomputable def x7h (call : x1ic) (hs : FHs) (args : List AV) (m : Mem) : O2 :=
 match args with
 | [t0] => xf4 call hs m.next t0 ⟨m.hp, m.next + 1⟩ 0
 | _ => none
noncomputable def xdb (call : x1ic) (hs : FHs) (args : List AV) (m : Mem) : O2 :=
 match args with
 | [t0] => xjr call hs m.next t0 ⟨m.hp, m.next + 1⟩ 0
 | _ => none
noncomputable def xdc (call : x1ic) (hs : FHs) (args : List AV) (m : Mem) : O2 :=
 match args with
 | [t0, t1, t2] => xjs call hs m.next t0 t1 t2 ⟨m.hp, m.next + 1⟩ 0
 | _ => none
noncomputable def xdd (call : x1ic) (hs : FHs) (args : List AV) (m : Mem) : O2 :=
 match args with
 | [t0] => xju call hs m.next t0 ⟨m.hp, m.next + 1⟩ 0
 | _ => none
noncomputable def xde (call : x1ic) (hs : FHs) (args : List AV) (m : Mem) : O2 :=
 match args with
 | [t0, t1, t2] => xjv call hs m.next t0 t1 t2 ⟨m.hp, m.next + 1⟩ 0
 | _ => none
noncomputable def xdf (call : x1ic) (hs : FHs) (args : List AV) (m : Mem) : O2 :=
 match args with
 | [t0, t1] => xjw call hs m.next t0 t1 ⟨m.hp, m.next + 1⟩ 0
 | _ => none
noncomputable def xdg (call : x1ic) (hs : FHs) (args : List AV) (m : Mem) : O2 :=
 match args with
 | [t0] => xjx call hs m.next t0 ⟨m.hp, m.next + 1⟩ 0
 | _ => none
noncomputable def xdh (call : x1ic) (hs : FHs) (args : List AV) (m : Mem) : O2 :=
 match args with
 | [t0] => xk0 call hs m.next t0 ⟨m.hp, m.next + 1⟩ 0
 | _ => none
noncomputable def x7i (call : x1ic) (hs : FHs) (args : List AV) (m : Mem) : O2 :=
 match args with
 | [t0] => xfe call hs m.next t0 ⟨m.hp, m.next + 1⟩ 0
 | _ => none
noncomputable def xdi (call : x1ic) (hs : FHs) (args : List AV) (m : Mem) : O2 :=
 match args with
 | [t0, t1, t2, t3] => xk1 call hs m.next t0 t1 t2 t3 ⟨m.hp, m.next + 1⟩ 0
 | _ => none
noncomputable def x6j (call : x1ic) (hs : FHs) (args : List AV) (m : Mem) : O2 :=
 match args with
 | [t0, t1, t2] => xff call hs m.next t0 t1 t2 ⟨m.hp, m.next + 1⟩ 0
 | _ => none
noncomputable def x9d (call : x1ic) (hs : FHs) (args : List AV) (m : Mem) : O2 :=
 match args with
 | [t0] => xag call hs m.next t0 ⟨m.hp, m.next + 1⟩ 0
 | _ => none
noncomputable def xdj (call : x1ic) (hs : FHs) (args : List AV) (m : Mem) : O2 :=
 match args with
 | [t0, t1] => xk3 call hs m.next t0 t1 ⟨m.hp, m.next + 1⟩ 0
 | _ => none
noncomputable def xdk (call : x1ic) (hs : FHs) (args : List AV) (m : Mem) : O2 :=
 match args with
 | [t0] => xk5 call hs m.next t0 ⟨m.hp, m.next + 1⟩ 0
 | _ => none
noncomputable def x7k (call : x1ic) (hs : FHs) (args : List AV) (m : Mem) : O2 :=
 match args with
 | [t0, t1] => xfk call hs m.next t0 t1 ⟨m.hp, m.next + 1⟩ 0
 | _ => none
noncomputable def xdl (call : x1ic) (hs : FHs) (args : List AV) (m : Mem) : O2 :=
 match args with
 | [t0, t1] => xk7 call hs m.next t0 t1 ⟨m.hp, m.next + 1⟩ 0
 | _ => none
noncomputable def xdm (call : x1ic) (hs : FHs) (args : List AV) (m : Mem) : O2 :=
 match args with
 | [t0] => xk8 call hs m.next t0 ⟨m.hp, m.next + 1⟩ 0
 | _ => none
noncomputable def xdn (call : x1ic) (hs : FHs) (args : List AV) (m : Mem) : O2 :=
 match args with
 | [t0] => xk9 call hs m.next t0 ⟨m.hp, m.next + 1⟩ 0
 | _ => none
noncomputable def xcn (call : x1ic) (hs : FHs) (args : List AV) (m : Mem) : O2 :=
 match args with
 | [t0] => xka call hs m.next t0 ⟨m.hp, m.next + 1⟩ 0
 | _ => none
noncomputable def xdo (call : x1ic) (hs : FHs) (args : List AV) (m : Mem) : O2 :=
 match args with
 | [t0, t1] => xkc call hs m.next t0 t1 ⟨m.hp, m.next + 1⟩ 0
 | _ => none
noncomputable def xdp (call : x1ic) (hs : FHs) (args : List AV) (m : Mem) : O2 :=
 match args with
 | [t0, t1] => xkd call hs m.next t0 t1 ⟨m.hp, m.next + 1⟩ 0
 | _ => none
noncomputable def xdq (call : x1ic) (hs : FHs) (args : List AV) (m : Mem) : O2 :=
 match args with
 | [t0, t1, t2] => xke call hs m.next t0 t1 t2 ⟨m.hp, m.next + 1⟩ 0
 | _ => none
noncomputable def xcm (call : x1ic) (hs : FHs) (args : List AV) (m : Mem) : O2 :=
 match args with
 | [t0] => xkf call hs m.next t0 ⟨m.hp, m.next + 1⟩ 0
 | _ => none
noncomputable def xdr (call : x1ic) (hs : FHs) (args : List AV) (m : Mem) : O2 :=
 match args with
 | [t0, t1, t2] => xkg call hs m.next t0 t1 t2 ⟨m.hp, m.next + 1⟩ 0
 | _ => none
noncomputable def xds (call : x1ic) (hs : FHs) (args : List AV) (m : Mem) : O2 :=
 match args with
 | [t0, t1, t2] => xkh call hs m.next t0 t1 t2 ⟨m.hp, m.next + 1⟩ 0
 | _ => none
noncomputable def xdt (call : x1ic) (hs : FHs) (args : List AV) (m : Mem) : O2 :=
 match args with
 | [t0, t1] => xkj call hs m.next t0 t1 ⟨m.hp, m.next + 1⟩ 0
 | _ => none
noncomputable def x6o (call : x1ic) (hs : FHs) (args : List AV) (m : Mem) : O2 :=
 match args with
 | [t0, t1] => xfp call hs m.next t0 t1 ⟨m.hp, m.next + 1⟩ 0
 | _ => none
noncomputable def xdu (call : x1ic) (hs : FHs) (args : List AV) (m : Mem) : O2 :=
 match args with
 | [t0, t1] => xkk call hs m.next t0 t1 ⟨m.hp, m.next + 1⟩ 0
 | _ => none
noncomputable def x7t (call : x1ic) (hs : FHs) (args : List AV) (m : Mem) : O2 :=
 match args with
 | [t0, t1] => xfr call hs m.next t0 t1 ⟨m.hp, m.next + 1⟩ 0
 | _ => none
noncomputable def xdv (call : x1ic) (hs : FHs) (args : List AV) (m : Mem) : O2 :=
 match args with
 | [t0, t1] => xkl call hs m.next t0 t1 ⟨m.hp, m.next + 1⟩ 0
 | _ => none
noncomputable def x7v (call : x1ic) (hs : FHs) (args : List AV) (m : Mem) : O2 :=
 match args with
 | [t0] => xfs call hs m.next t0 ⟨m.hp, m.next + 1⟩ 0
 | _ => none
noncomputable def x7w (call : x1ic) (hs : FHs) (args : List AV) (m : Mem) : O2 :=
 match args with
 | [t0] => xft call hs m.next t0 ⟨m.hp, m.next + 1⟩ 0
 | _ => none
noncomputable def x6q (call : x1ic) (hs : FHs) (args : List AV) (m : Mem) : O2 :=
 match args with
 | [t0, t1] => xfu call hs m.next t0 t1 ⟨m.hp, m.next + 1⟩ 0
 | _ => none
noncomputable def x6r (call : x1ic) (hs : FHs) (args : List AV) (m : Mem) : O2 :=
 match args with
 | [t0] => xfv call hs m.next t0 ⟨m.hp, m.next + 1⟩ 0
 | _ => none
noncomputable def x7x (call : x1ic) (hs : FHs) (args : List AV) (m : Mem) : O2 :=
 match args with
 | [t0, t1] => xfw call hs m.next t0 t1 ⟨m.hp, m.next + 1⟩ 0
 | _ => none
noncomputable def x6p (call : x1ic) (hs : FHs) (args : List AV) (m : Mem) : O2 :=
 match args with
 | [t0] => xfx call hs m.next t0 ⟨m.hp, m.next + 1⟩ 0
 | _ => none
noncomputable def xdw (call : x1ic) (hs : FHs) (args : List AV) (m : Mem) : O2 :=
 match args with
 | [t0, t1] => xkn call hs m.next t0 t1 ⟨m.hp, m.next + 1⟩ 0
 | _ => none
noncomputable def xdx (call : x1ic) (hs : FHs) (args : List AV) (m : Mem) : O2 :=
 match args with
 | [t0] => xko call hs m.next t0 ⟨m.hp, m.next + 1⟩ 0
 | _ => none
noncomputable def xdy (call : x1ic) (hs : FHs) (args : List AV) (m : Mem) : O2 :=
 match args with
 | [t0, t1] => xkp call hs m.next t0 t1 ⟨m.hp, m.next + 1⟩ 0
 | _ => none
noncomputable def xdz (call : x1ic) (hs : FHs) (args : List AV) (m : Mem) : O2 :=
 match args with
 | [t0, t1] => xkq call hs m.next t0 t1 ⟨m.hp, m.next + 1⟩ 0
 | _ => none
noncomputable def xe0 (call : x1ic) (hs : FHs) (args : List AV) (m : Mem) : O2 :=
 match args with
 | [t0] => xkr call hs m.next t0 ⟨m.hp, m.next + 1⟩ 0
 | _ => none
noncomputable def x82 (call : x1ic) (hs : FHs) (args : List AV) (m : Mem) : O2 :=
 match args with
 | [t0, t1] => xfz call hs m.next t0 t1 ⟨m.hp, m.next + 1⟩ 0
 | _ => none
noncomputable def x92 (call : x1ic) (hs : FHs) (args : List AV) (m : Mem) : O2 :=
 match args with
 | [t0, t1, t2] => xb6 call hs m.next t0 t1 t2 ⟨m.hp, m.next + 1⟩ 0
 | _ => none
noncomputable def x6k (call : x1ic) (hs : FHs) (args : List AV) (m : Mem) : O2 :=
 match args with
 | [t0, t1] => xg0 call hs m.next t0 t1 ⟨m.hp, m.next + 1⟩ 0
 | _ => none
noncomputable def xcl (call : x1ic) (hs : FHs) (args : List AV) (m : Mem) : O2 :=
 match args with
 | [t0, t1, t2, t3] => xku call hs m.next t0 t1 t2 t3 ⟨m.hp, m.next + 1⟩ 0
 | _ => none
noncomputable def x83 (call : x1ic) (hs : FHs) (args : List AV) (m : Mem) : O2 :=
 match args with
 | [t0, t1] => xg2 call hs m.next t0 t1 ⟨m.hp, m.next + 1⟩ 0
 | _ => none
noncomputable def xe1 (call : x1ic) (hs : FHs) (args : List AV) (m : Mem) : O2 :=
 match args with
 | [t0] => xkv call hs m.next t0 ⟨m.hp, m.next + 1⟩ 0
 | _ => none
noncomputable def xe2 (call : x1ic) (hs : FHs) (args : List AV) (m : Mem) : O2 :=
 match args with
 | [t0, t1, t2] => xkz call hs m.next t0 t1 t2 ⟨m.hp, m.next + 1⟩ 0
 | _ => none
noncomputable def x86 (call : x1ic) (hs : FHs) (args : List AV) (m : Mem) : O2 :=
 match args with
 | [t0, t1] => xg4 call hs m.next t0 t1 ⟨m.hp, m.next + 1⟩ 0
 | _ => none
noncomputable def x91 (call : x1ic) (hs : FHs) (args : List AV) (m : Mem) : O2 :=
 match args with
 | [t0, t1, t2, t3] => x8u call hs m.next t0 t1 t2 t3 ⟨m.hp, m.next + 1⟩ 0
 | _ => none
noncomputable def x6l (call : x1ic) (hs : FHs) (args : List AV) (m : Mem) : O2 :=
 match args with
 | [t0, t1] => xg5 call hs m.next t0 t1 ⟨m.hp, m.next + 1⟩ 0
 | _ => none
noncomputable def xe3 (call : x1ic) (hs : FHs) (args : List AV) (m : Mem) : O2 :=
 match args with
 | [t0, t1] => xl0 call hs m.next t0 t1 ⟨m.hp, m.next + 1⟩ 0
 | _ => none
noncomputable def x6i (call : x1ic) (hs : FHs) (args : List AV) (m : Mem) : O2 :=
 match args with
 | [t0, t1, t2] => xg6 call hs m.next t0 t1 t2 ⟨m.hp, m.next + 1⟩ 0
 | _ => none
noncomputable def xe4 (call : x1ic) (hs : FHs) (args : List AV) (m : Mem) : O2 :=
 match args with
 | [t0, t1] => xl1 call hs m.next t0 t1 ⟨m.hp, m.next + 1⟩ 0
 | _ => none
noncomputable def xck (call : x1ic) (hs : FHs) (args : List AV) (m : Mem) : O2 :=
 match args with
 | [t0, t1] => xl2 call hs m.next t0 t1 ⟨m.hp, m.next + 1⟩ 0
 | _ => none
end Go.Ix
