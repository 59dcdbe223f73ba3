import Derived.Test.YtljibmnhhdiakaaFxText0
set_option linter.unusedVariables false
namespace Go.Ix
open Go.Proofs
noncomputable def xc1 (call : x1e5) (hs : FHs) (args : List AV) (m : Mem) : O2 :=
 match args with
 | [t0] => xhl call hs m.next t0 ⟨m.hp, m.next + 1⟩ 0
 | _ => none
noncomputable def xc2 (call : x1e5) (hs : FHs) (args : List AV) (m : Mem) : O2 :=
 match args with
 | [t0, t1] => xhm call hs m.next t0 t1 ⟨m.hp, m.next + 1⟩ 0
 | _ => none
noncomputable def x6i (call : x1e5) (hs : FHs) (args : List AV) (m : Mem) : O2 :=
 match args with
 | [t0, t1] => xdd call hs m.next t0 t1 ⟨m.hp, m.next + 1⟩ 0
 | _ => none
noncomputable def xc3 (call : x1e5) (hs : FHs) (args : List AV) (m : Mem) : O2 :=
 match args with
 | [] => xhn call hs m.next ⟨m.hp, m.next + 1⟩ 0
 | _ => none
noncomputable def xc4 (call : x1e5) (hs : FHs) (args : List AV) (m : Mem) : O2 :=
 match args with
 | [t0] => xhp call hs m.next t0 ⟨m.hp, m.next + 1⟩ 0
 | _ => none
noncomputable def xc5 (call : x1e5) (hs : FHs) (args : List AV) (m : Mem) : O2 :=
 match args with
 | [t0] => xhq call hs m.next t0 ⟨m.hp, m.next + 1⟩ 0
 | _ => none
noncomputable def xc6 (call : x1e5) (hs : FHs) (args : List AV) (m : Mem) : O2 :=
 match args with
 | [t0] => xhr call hs m.next t0 ⟨m.hp, m.next + 1⟩ 0
 | _ => none
noncomputable def xc7 (call : x1e5) (hs : FHs) (args : List AV) (m : Mem) : O2 :=
 match args with
 | [t0] => xhs call hs m.next t0 ⟨m.hp, m.next + 1⟩ 0
 | _ => none
noncomputable def xc8 (call : x1e5) (hs : FHs) (args : List AV) (m : Mem) : O2 :=
 match args with
 | [t0, t1] => xhu call hs m.next t0 t1 ⟨m.hp, m.next + 1⟩ 0
 | _ => none
noncomputable def xc9 (call : x1e5) (hs : FHs) (args : List AV) (m : Mem) : O2 :=
 match args with
 | [t0, t1] => xhx call hs m.next t0 t1 ⟨m.hp, m.next + 1⟩ 0
 | _ => none
noncomputable def x8u (call : x1e5) (hs : FHs) (args : List AV) (m : Mem) : O2 :=
 match args with
 | [t0, t1] => xhy call hs m.next t0 t1 ⟨m.hp, m.next + 1⟩ 0
 | _ => none
noncomputable def x6l (call : x1e5) (hs : FHs) (args : List AV) (m : Mem) : O2 :=
 match args with
 | [t0] => xdj call hs m.next t0 ⟨m.hp, m.next + 1⟩ 0
 | _ => none
noncomputable def xca (call : x1e5) (hs : FHs) (args : List AV) (m : Mem) : O2 :=
 match args with
 | [t0] => xhz call hs m.next t0 ⟨m.hp, m.next + 1⟩ 0
 | _ => none
noncomputable def x6n (call : x1e5) (hs : FHs) (args : List AV) (m : Mem) : O2 :=
 match args with
 | [t0] => xdk call hs m.next t0 ⟨m.hp, m.next + 1⟩ 0
 | _ => none
noncomputable def x6o (call : x1e5) (hs : FHs) (args : List AV) (m : Mem) : O2 :=
 match args with
 | [t0] => xdl call hs m.next t0 ⟨m.hp, m.next + 1⟩ 0
 | _ => none
noncomputable def x6p (call : x1e5) (hs : FHs) (args : List AV) (m : Mem) : O2 :=
 match args with
 | [t0] => xdm call hs m.next t0 ⟨m.hp, m.next + 1⟩ 0
 | _ => none
noncomputable def xcb (call : x1e5) (hs : FHs) (args : List AV) (m : Mem) : O2 :=
 match args with
 | [t0, t1] => xi1 call hs m.next t0 t1 ⟨m.hp, m.next + 1⟩ 0
 | _ => none
noncomputable def xcc (call : x1e5) (hs : FHs) (args : List AV) (m : Mem) : O2 :=
 match args with
 | [t0] => xi6 call hs m.next t0 ⟨m.hp, m.next + 1⟩ 0
 | _ => none
noncomputable def xcd (call : x1e5) (hs : FHs) (args : List AV) (m : Mem) : O2 :=
 match args with
 | [t0, t1, t2] => xi7 call hs m.next t0 t1 t2 ⟨m.hp, m.next + 1⟩ 0
 | _ => none
noncomputable def xce (call : x1e5) (hs : FHs) (args : List AV) (m : Mem) : O2 :=
 match args with
 | [t0, t1] => xi9 call hs m.next t0 t1 ⟨m.hp, m.next + 1⟩ 0
 | _ => none
noncomputable def x6s (call : x1e5) (hs : FHs) (args : List AV) (m : Mem) : O2 :=
 match args with
 | [t0, t1, t2] => xds call hs m.next t0 t1 t2 ⟨m.hp, m.next + 1⟩ 0
 | _ => none
noncomputable def xcf (call : x1e5) (hs : FHs) (args : List AV) (m : Mem) : O2 :=
 match args with
 | [t0, t1] => xia call hs m.next t0 t1 ⟨m.hp, m.next + 1⟩ 0
 | _ => none
noncomputable def x4u (call : x1e5) (hs : FHs) (args : List AV) (m : Mem) : O2 :=
 match args with
 | [t0] => x9j call hs m.next t0 ⟨m.hp, m.next + 1⟩ 0
 | _ => none
noncomputable def x8w (call : x1e5) (hs : FHs) (args : List AV) (m : Mem) : O2 :=
 match args with
 | [t0] => x9l call hs m.next t0 ⟨m.hp, m.next + 1⟩ 0
 | _ => none
noncomputable def xcg (call : x1e5) (hs : FHs) (args : List AV) (m : Mem) : O2 :=
 match args with
 | [t0, t1] => xib call hs m.next t0 t1 ⟨m.hp, m.next + 1⟩ 0
 | _ => none
noncomputable def x42 (call : x1e5) (hs : FHs) (args : List AV) (m : Mem) : O2 :=
 match args with
 | [t0, t1] => x80 call hs m.next t0 t1 ⟨m.hp, m.next + 1⟩ 0
 | _ => none
noncomputable def x6t (call : x1e5) (hs : FHs) (args : List AV) (m : Mem) : O2 :=
 match args with
 | [t0] => xdt call hs m.next t0 ⟨m.hp, m.next + 1⟩ 0
 | _ => none
noncomputable def xch (call : x1e5) (hs : FHs) (args : List AV) (m : Mem) : O2 :=
 match args with
 | [t0] => xic call hs m.next t0 ⟨m.hp, m.next + 1⟩ 0
 | _ => none
noncomputable def xci (call : x1e5) (hs : FHs) (args : List AV) (m : Mem) : O2 :=
 match args with
 | [t0, t1] => xie call hs m.next t0 t1 ⟨m.hp, m.next + 1⟩ 0
 | _ => none
noncomputable def x6w (call : x1e5) (hs : FHs) (args : List AV) (m : Mem) : O2 :=
 match args with
 | [t0] => xdw call hs m.next t0 ⟨m.hp, m.next + 1⟩ 0
 | _ => none
noncomputable def xcj (call : x1e5) (hs : FHs) (args : List AV) (m : Mem) : O2 :=
 match args with
 | [t0, t1] => xig call hs m.next t0 t1 ⟨m.hp, m.next + 1⟩ 0
 | _ => none
noncomputable def xck (call : x1e5) (hs : FHs) (args : List AV) (m : Mem) : O2 :=
 match args with
 | [t0, t1] => xii call hs m.next t0 t1 ⟨m.hp, m.next + 1⟩ 0
 | _ => none
noncomputable def xcl (call : x1e5) (hs : FHs) (args : List AV) (m : Mem) : O2 :=
 match args with
 | [t0] => xij call hs m.next t0 ⟨m.hp, m.next + 1⟩ 0
 | _ => none
noncomputable def xcm (call : x1e5) (hs : FHs) (args : List AV) (m : Mem) : O2 :=
 match args with
 | [t0] => xik call hs m.next t0 ⟨m.hp, m.next + 1⟩ 0
 | _ => none
noncomputable def xcn (call : x1e5) (hs : FHs) (args : List AV) (m : Mem) : O2 :=
 match args with
 | [t0] => xil call hs m.next t0 ⟨m.hp, m.next + 1⟩ 0
 | _ => none
noncomputable def xco (call : x1e5) (hs : FHs) (args : List AV) (m : Mem) : O2 :=
 match args with
 | [t0] => xim call hs m.next t0 ⟨m.hp, m.next + 1⟩ 0
 | _ => none
noncomputable def xcp (call : x1e5) (hs : FHs) (args : List AV) (m : Mem) : O2 :=
 match args with
 | [t0] => xin call hs m.next t0 ⟨m.hp, m.next + 1⟩ 0
 | _ => none
noncomputable def x8z (call : x1e5) (hs : FHs) (args : List AV) (m : Mem) : O2 :=
 match args with
 | [t0] => x9v call hs m.next t0 ⟨m.hp, m.next + 1⟩ 0
 | _ => none
noncomputable def x6z (call : x1e5) (hs : FHs) (args : List AV) (m : Mem) : O2 :=
 match args with
 | [t0, t1] => xe3 call hs m.next t0 t1 ⟨m.hp, m.next + 1⟩ 0
 | _ => none
noncomputable def xcq (call : x1e5) (hs : FHs) (args : List AV) (m : Mem) : O2 :=
 match args with
 | [t0] => xip call hs m.next t0 ⟨m.hp, m.next + 1⟩ 0
 | _ => none
noncomputable def x71 (call : x1e5) (hs : FHs) (args : List AV) (m : Mem) : O2 :=
 match args with
 | [t0] => xe5 call hs m.next t0 ⟨m.hp, m.next + 1⟩ 0
 | _ => none
noncomputable def x72 (call : x1e5) (hs : FHs) (args : List AV) (m : Mem) : O2 :=
 match args with
 | [t0, t1, t2] => xe6 call hs m.next t0 t1 t2 ⟨m.hp, m.next + 1⟩ 0
 | _ => none
noncomputable def x73 (call : x1e5) (hs : FHs) (args : List AV) (m : Mem) : O2 :=
 match args with
 | [t0] => xe7 call hs m.next t0 ⟨m.hp, m.next + 1⟩ 0
 | _ => none
noncomputable def x74 (call : x1e5) (hs : FHs) (args : List AV) (m : Mem) : O2 :=
 match args with
 | [t0, t1, t2] => xe8 call hs m.next t0 t1 t2 ⟨m.hp, m.next + 1⟩ 0
 | _ => none
noncomputable def x75 (call : x1e5) (hs : FHs) (args : List AV) (m : Mem) : O2 :=
 match args with
 | [t0, t1] => xe9 call hs m.next t0 t1 ⟨m.hp, m.next + 1⟩ 0
 | _ => none
noncomputable def x76 (call : x1e5) (hs : FHs) (args : List AV) (m : Mem) : O2 :=
 match args with
 | [t0] => xea call hs m.next t0 ⟨m.hp, m.next + 1⟩ 0
 | _ => none
noncomputable def x77 (call : x1e5) (hs : FHs) (args : List AV) (m : Mem) : O2 :=
 match args with
 | [t0] => xec call hs m.next t0 ⟨m.hp, m.next + 1⟩ 0
 | _ => none
noncomputable def x78 (call : x1e5) (hs : FHs) (args : List AV) (m : Mem) : O2 :=
 match args with
 | [t0] => xed call hs m.next t0 ⟨m.hp, m.next + 1⟩ 0
 | _ => none
noncomputable def xcr (call : x1e5) (hs : FHs) (args : List AV) (m : Mem) : O2 :=
 match args with
 | [t0, t1, t2, t3] => xiq call hs m.next t0 t1 t2 t3 ⟨m.hp, m.next + 1⟩ 0
 | _ => none
noncomputable def x68 (call : x1e5) (hs : FHs) (args : List AV) (m : Mem) : O2 :=
 match args with
 | [t0, t1, t2] => xee call hs m.next t0 t1 t2 ⟨m.hp, m.next + 1⟩ 0
 | _ => none
noncomputable def x90 (call : x1e5) (hs : FHs) (args : List AV) (m : Mem) : O2 :=
 match args with
 | [t0] => xa8 call hs m.next t0 ⟨m.hp, m.next + 1⟩ 0
 | _ => none
noncomputable def xcs (call : x1e5) (hs : FHs) (args : List AV) (m : Mem) : O2 :=
 match args with
 | [t0, t1] => xis call hs m.next t0 t1 ⟨m.hp, m.next + 1⟩ 0
 | _ => none
noncomputable def xct (call : x1e5) (hs : FHs) (args : List AV) (m : Mem) : O2 :=
 match args with
 | [t0] => xiu call hs m.next t0 ⟨m.hp, m.next + 1⟩ 0
 | _ => none
noncomputable def x7a (call : x1e5) (hs : FHs) (args : List AV) (m : Mem) : O2 :=
 match args with
 | [t0, t1] => xej call hs m.next t0 t1 ⟨m.hp, m.next + 1⟩ 0
 | _ => none
noncomputable def xcu (call : x1e5) (hs : FHs) (args : List AV) (m : Mem) : O2 :=
 match args with
 | [t0] => xiv call hs m.next t0 ⟨m.hp, m.next + 1⟩ 0
 | _ => none
noncomputable def x91 (call : x1e5) (hs : FHs) (args : List AV) (m : Mem) : O2 :=
 match args with
 | [t0] => xaa call hs m.next t0 ⟨m.hp, m.next + 1⟩ 0
 | _ => none
noncomputable def x6e (call : x1e5) (hs : FHs) (args : List AV) (m : Mem) : O2 :=
 match args with
 | [t0] => xek call hs m.next t0 ⟨m.hp, m.next + 1⟩ 0
 | _ => none
noncomputable def xcv (call : x1e5) (hs : FHs) (args : List AV) (m : Mem) : O2 :=
 match args with
 | [t0, t1] => xix call hs m.next t0 t1 ⟨m.hp, m.next + 1⟩ 0
 | _ => none
noncomputable def x7d (call : x1e5) (hs : FHs) (args : List AV) (m : Mem) : O2 :=
 match args with
 | [t0, t1] => xem call hs m.next t0 t1 ⟨m.hp, m.next + 1⟩ 0
 | _ => none
noncomputable def x7e (call : x1e5) (hs : FHs) (args : List AV) (m : Mem) : O2 :=
 match args with
 | [t0, t1, t2] => xen call hs m.next t0 t1 t2 ⟨m.hp, m.next + 1⟩ 0
 | _ => none
noncomputable def x6d (call : x1e5) (hs : FHs) (args : List AV) (m : Mem) : O2 :=
 match args with
 | [t0] => xeo call hs m.next t0 ⟨m.hp, m.next + 1⟩ 0
 | _ => none
noncomputable def xcw (call : x1e5) (hs : FHs) (args : List AV) (m : Mem) : O2 :=
 match args with
 | [t0, t1, t2] => xiy call hs m.next t0 t1 t2 ⟨m.hp, m.next + 1⟩ 0
 | _ => none
noncomputable def xcx (call : x1e5) (hs : FHs) (args : List AV) (m : Mem) : O2 :=
 match args with
 | [t0, t1, t2] => xiz call hs m.next t0 t1 t2 ⟨m.hp, m.next + 1⟩ 0
 | _ => none
noncomputable def xcy (call : x1e5) (hs : FHs) (args : List AV) (m : Mem) : O2 :=
 match args with
 | [t0, t1] => xj1 call hs m.next t0 t1 ⟨m.hp, m.next + 1⟩ 0
 | _ => none
noncomputable def x6f (call : x1e5) (hs : FHs) (args : List AV) (m : Mem) : O2 :=
 match args with
 | [t0, t1] => xer call hs m.next t0 t1 ⟨m.hp, m.next + 1⟩ 0
 | _ => none
noncomputable def xcz (call : x1e5) (hs : FHs) (args : List AV) (m : Mem) : O2 :=
 match args with
 | [t0] => xj2 call hs m.next t0 ⟨m.hp, m.next + 1⟩ 0
 | _ => none
noncomputable def xd0 (call : x1e5) (hs : FHs) (args : List AV) (m : Mem) : O2 :=
 match args with
 | [t0, t1] => xj3 call hs m.next t0 t1 ⟨m.hp, m.next + 1⟩ 0
 | _ => none
noncomputable def xd1 (call : x1e5) (hs : FHs) (args : List AV) (m : Mem) : O2 :=
 match args with
 | [t0, t1] => xj4 call hs m.next t0 t1 ⟨m.hp, m.next + 1⟩ 0
 | _ => none
noncomputable def xd2 (call : x1e5) (hs : FHs) (args : List AV) (m : Mem) : O2 :=
 match args with
 | [t0, t1] => xj5 call hs m.next t0 t1 ⟨m.hp, m.next + 1⟩ 0
 | _ => none
noncomputable def xd3 (call : x1e5) (hs : FHs) (args : List AV) (m : Mem) : O2 :=
 match args with
 | [t0] => xj7 call hs m.next t0 ⟨m.hp, m.next + 1⟩ 0
 | _ => none
noncomputable def x7l (call : x1e5) (hs : FHs) (args : List AV) (m : Mem) : O2 :=
 match args with
 | [t0] => xeu call hs m.next t0 ⟨m.hp, m.next + 1⟩ 0
 | _ => none
noncomputable def x4r (call : x1e5) (hs : FHs) (args : List AV) (m : Mem) : O2 :=
 match args with
 | [t0, t1] => xah call hs m.next t0 t1 ⟨m.hp, m.next + 1⟩ 0
 | _ => none
noncomputable def x6h (call : x1e5) (hs : FHs) (args : List AV) (m : Mem) : O2 :=
 match args with
 | [t0] => xev call hs m.next t0 ⟨m.hp, m.next + 1⟩ 0
 | _ => none
noncomputable def x7m (call : x1e5) (hs : FHs) (args : List AV) (m : Mem) : O2 :=
 match args with
 | [t0, t1] => xew call hs m.next t0 t1 ⟨m.hp, m.next + 1⟩ 0
 | _ => none
noncomputable def x6g (call : x1e5) (hs : FHs) (args : List AV) (m : Mem) : O2 :=
 match args with
 | [t0] => xex call hs m.next t0 ⟨m.hp, m.next + 1⟩ 0
 | _ => none
noncomputable def x7n (call : x1e5) (hs : FHs) (args : List AV) (m : Mem) : O2 :=
 match args with
 | [t0, t1] => xey call hs m.next t0 t1 ⟨m.hp, m.next + 1⟩ 0
 | _ => none
noncomputable def x7o (call : x1e5) (hs : FHs) (args : List AV) (m : Mem) : O2 :=
 match args with
 | [t0] => xez call hs m.next t0 ⟨m.hp, m.next + 1⟩ 0
 | _ => none
noncomputable def x7p (call : x1e5) (hs : FHs) (args : List AV) (m : Mem) : O2 :=
 match args with
 | [t0, t1] => xf0 call hs m.next t0 t1 ⟨m.hp, m.next + 1⟩ 0
 | _ => none
noncomputable def x50 (call : x1e5) (hs : FHs) (args : List AV) (m : Mem) : O2 :=
 match args with
 | [t0, t1] => xan call hs m.next t0 t1 ⟨m.hp, m.next + 1⟩ 0
 | _ => none
noncomputable def xd4 (call : x1e5) (hs : FHs) (args : List AV) (m : Mem) : O2 :=
 match args with
 | [t0] => xj9 call hs m.next t0 ⟨m.hp, m.next + 1⟩ 0
 | _ => none
noncomputable def x7q (call : x1e5) (hs : FHs) (args : List AV) (m : Mem) : O2 :=
 match args with
 | [t0, t1] => xf1 call hs m.next t0 t1 ⟨m.hp, m.next + 1⟩ 0
 | _ => none
noncomputable def x8n (call : x1e5) (hs : FHs) (args : List AV) (m : Mem) : O2 :=
 match args with
 | [t0, t1, t2] => xaq call hs m.next t0 t1 t2 ⟨m.hp, m.next + 1⟩ 0
 | _ => none
noncomputable def x69 (call : x1e5) (hs : FHs) (args : List AV) (m : Mem) : O2 :=
 match args with
 | [t0, t1] => xf2 call hs m.next t0 t1 ⟨m.hp, m.next + 1⟩ 0
 | _ => none
noncomputable def xc0 (call : x1e5) (hs : FHs) (args : List AV) (m : Mem) : O2 :=
 match args with
 | [t0, t1, t2, t3] => xjc call hs m.next t0 t1 t2 t3 ⟨m.hp, m.next + 1⟩ 0
 | _ => none
noncomputable def xd5 (call : x1e5) (hs : FHs) (args : List AV) (m : Mem) : O2 :=
 match args with
 | [t0] => xjd call hs m.next t0 ⟨m.hp, m.next + 1⟩ 0
 | _ => none
noncomputable def xd6 (call : x1e5) (hs : FHs) (args : List AV) (m : Mem) : O2 :=
 match args with
 | [t0, t1] => xjf call hs m.next t0 t1 ⟨m.hp, m.next + 1⟩ 0
 | _ => none
noncomputable def x7s (call : x1e5) (hs : FHs) (args : List AV) (m : Mem) : O2 :=
 match args with
 | [t0, t1, t2] => xf6 call hs m.next t0 t1 t2 ⟨m.hp, m.next + 1⟩ 0
 | _ => none
noncomputable def x7t (call : x1e5) (hs : FHs) (args : List AV) (m : Mem) : O2 :=
 match args with
 | [t0, t1] => xf7 call hs m.next t0 t1 ⟨m.hp, m.next + 1⟩ 0
 | _ => none
noncomputable def x8m (call : x1e5) (hs : FHs) (args : List AV) (m : Mem) : O2 :=
 match args with
 | [t0, t1, t2, t3] => x8f call hs m.next t0 t1 t2 t3 ⟨m.hp, m.next + 1⟩ 0
 | _ => none
noncomputable def x6a (call : x1e5) (hs : FHs) (args : List AV) (m : Mem) : O2 :=
 match args with
 | [t0, t1] => xf8 call hs m.next t0 t1 ⟨m.hp, m.next + 1⟩ 0
 | _ => none
noncomputable def xd7 (call : x1e5) (hs : FHs) (args : List AV) (m : Mem) : O2 :=
 match args with
 | [t0] => xjg call hs m.next t0 ⟨m.hp, m.next + 1⟩ 0
 | _ => none
noncomputable def xd8 (call : x1e5) (hs : FHs) (args : List AV) (m : Mem) : O2 :=
 match args with
 | [t0, t1] => xjh call hs m.next t0 t1 ⟨m.hp, m.next + 1⟩ 0
 | _ => none
noncomputable def x67 (call : x1e5) (hs : FHs) (args : List AV) (m : Mem) : O2 :=
 match args with
 | [t0, t1, t2] => xf9 call hs m.next t0 t1 t2 ⟨m.hp, m.next + 1⟩ 0
 | _ => none
noncomputable def xd9 (call : x1e5) (hs : FHs) (args : List AV) (m : Mem) : O2 :=
 match args with
 | [t0, t1] => xji call hs m.next t0 t1 ⟨m.hp, m.next + 1⟩ 0
 | _ => none
noncomputable def xbz (call : x1e5) (hs : FHs) (args : List AV) (m : Mem) : O2 :=
 match args with
 | [t0, t1] => xjj call hs m.next t0 t1 ⟨m.hp, m.next + 1⟩ 0
 | _ => none
end Go.Ix
