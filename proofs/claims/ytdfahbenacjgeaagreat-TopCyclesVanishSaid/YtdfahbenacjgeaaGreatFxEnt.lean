import Derived.Test.YtdfahbenacjgeaaGreatFxText0
set_option linter.unusedVariables false
namespace Go.Ix
open Go.Proofs
noncomputable def xdm:FnT:=λc h args m=>match args with
 |[t0,t1]=>x7u c h m.next t0 t1 ⟨m.hp,m.next+1⟩ 0
 |_=>none
noncomputable def xdn:FnT:=λc h args m=>match args with
 |[t0]=>x7v c h m.next t0 ⟨m.hp,m.next+1⟩ 0
 |_=>none
noncomputable def xdo:FnT:=λc h args m=>match args with
 |[t0,t1]=>x7y c h m.next t0 t1 ⟨m.hp,m.next+1⟩ 0
 |_=>none
noncomputable def x7n:FnT:=λc h args m=>match args with
 |[t0]=>x6p c h m.next t0 ⟨m.hp,m.next+1⟩ 0
 |_=>none
noncomputable def xdp:FnT:=λc h args m=>match args with
 |[t0]=>x7z c h m.next t0 ⟨m.hp,m.next+1⟩ 0
 |_=>none
noncomputable def xdq:FnT:=λc h args m=>match args with
 |[t0,t1]=>x81 c h m.next t0 t1 ⟨m.hp,m.next+1⟩ 0
 |_=>none
noncomputable def x6k:FnT:=λc h args m=>match args with
 |[t0]=>x54 c h m.next t0 ⟨m.hp,m.next+1⟩ 0
 |_=>none
noncomputable def xdr:FnT:=λc h args m=>match args with
 |[t0,t1]=>x83 c h m.next t0 t1 ⟨m.hp,m.next+1⟩ 0
 |_=>none
noncomputable def x7o:FnT:=λc h args m=>match args with
 |[t0]=>x6q c h m.next t0 ⟨m.hp,m.next+1⟩ 0
 |_=>none
noncomputable def x7p:FnT:=λc h args m=>match args with
 |[t0]=>x6r c h m.next t0 ⟨m.hp,m.next+1⟩ 0
 |_=>none
noncomputable def xds:FnT:=λc h args m=>match args with
 |[t0,t1]=>x85 c h m.next t0 t1 ⟨m.hp,m.next+1⟩ 0
 |_=>none
noncomputable def xdt:FnT:=λc h args m=>match args with
 |[t0,t1,t2]=>x86 c h m.next t0 t1 t2 ⟨m.hp,m.next+1⟩ 0
 |_=>none
noncomputable def xdu:FnT:=λc h args m=>match args with
 |[t0,t1]=>x88 c h m.next t0 t1 ⟨m.hp,m.next+1⟩ 0
 |_=>none
noncomputable def xdv:FnT:=λc h args m=>match args with
 |[t0]=>x8b c h m.next t0 ⟨m.hp,m.next+1⟩ 0
 |_=>none
noncomputable def xdw:FnT:=λc h args m=>match args with
 |[t0,t1]=>x8c c h m.next t0 t1 ⟨m.hp,m.next+1⟩ 0
 |_=>none
noncomputable def x7q:FnT:=λc h args m=>match args with
 |[t0]=>x6t c h m.next t0 ⟨m.hp,m.next+1⟩ 0
 |_=>none
noncomputable def xdx:FnT:=λc h args m=>match args with
 |[t0,t1]=>x8i c h m.next t0 t1 ⟨m.hp,m.next+1⟩ 0
 |_=>none
noncomputable def xdy:FnT:=λc h args m=>match args with
 |[t0]=>x8k c h m.next t0 ⟨m.hp,m.next+1⟩ 0
 |_=>none
noncomputable def xdz:FnT:=λc h args m=>match args with
 |[t0]=>x8l c h m.next t0 ⟨m.hp,m.next+1⟩ 0
 |_=>none
noncomputable def xe0:FnT:=λc h args m=>match args with
 |[t0,t1,t2]=>x8m c h m.next t0 t1 t2 ⟨m.hp,m.next+1⟩ 0
 |_=>none
noncomputable def xe1:FnT:=λc h args m=>match args with
 |[t0,t1]=>x8o c h m.next t0 t1 ⟨m.hp,m.next+1⟩ 0
 |_=>none
noncomputable def xe2:FnT:=λc h args m=>match args with
 |[t0,t1]=>x8q c h m.next t0 t1 ⟨m.hp,m.next+1⟩ 0
 |_=>none
noncomputable def xe3:FnT:=λc h args m=>match args with
 |[t0,t1]=>x8s c h m.next t0 t1 ⟨m.hp,m.next+1⟩ 0
 |_=>none
noncomputable def xe4:FnT:=λc h args m=>match args with
 |[t0]=>x8t c h m.next t0 ⟨m.hp,m.next+1⟩ 0
 |_=>none
noncomputable def xe5:FnT:=λc h args m=>match args with
 |[t0]=>x8v c h m.next t0 ⟨m.hp,m.next+1⟩ 0
 |_=>none
noncomputable def xe6:FnT:=λc h args m=>match args with
 |[t0,t1]=>x8y c h m.next t0 t1 ⟨m.hp,m.next+1⟩ 0
 |_=>none
noncomputable def xe7:FnT:=λc h args m=>match args with
 |[t0,t1]=>x8z c h m.next t0 t1 ⟨m.hp,m.next+1⟩ 0
 |_=>none
noncomputable def xe8:FnT:=λc h args m=>match args with
 |[t0,t1]=>x90 c h m.next t0 t1 ⟨m.hp,m.next+1⟩ 0
 |_=>none
noncomputable def xe9:FnT:=λc h args m=>match args with
 |[t0,t1]=>x92 c h m.next t0 t1 ⟨m.hp,m.next+1⟩ 0
 |_=>none
noncomputable def xea:FnT:=λc h args m=>match args with
 |[t0,t1]=>x97 c h m.next t0 t1 ⟨m.hp,m.next+1⟩ 0
 |_=>none
noncomputable def xeb:FnT:=λc h args m=>match args with
 |[t0,t1]=>x98 c h m.next t0 t1 ⟨m.hp,m.next+1⟩ 0
 |_=>none
noncomputable def xec:FnT:=λc h args m=>match args with
 |[t0,t1]=>x9a c h m.next t0 t1 ⟨m.hp,m.next+1⟩ 0
 |_=>none
noncomputable def xed:FnT:=λc h args m=>match args with
 |[t0,t1]=>x9c c h m.next t0 t1 ⟨m.hp,m.next+1⟩ 0
 |_=>none
noncomputable def xee:FnT:=λc h args m=>match args with
 |[t0,t1,t2,t3]=>x9h c h m.next t0 t1 t2 t3 ⟨m.hp,m.next+1⟩ 0
 |_=>none
noncomputable def xef:FnT:=λc h args m=>match args with
 |[t0,t1]=>x9i c h m.next t0 t1 ⟨m.hp,m.next+1⟩ 0
 |_=>none
noncomputable def xeg:FnT:=λc h args m=>match args with
 |[t0,t1]=>x9j c h m.next t0 t1 ⟨m.hp,m.next+1⟩ 0
 |_=>none
noncomputable def xld:FnT:=λc h args m=>match args with
 |[t0]=>x6x c h m.next t0 ⟨m.hp,m.next+1⟩ 0
 |_=>none
noncomputable def xeh:FnT:=λc h args m=>match args with
 |[t0]=>x9l c h m.next t0 ⟨m.hp,m.next+1⟩ 0
 |_=>none
noncomputable def xei:FnT:=λc h args m=>match args with
 |[t0]=>x9m c h m.next t0 ⟨m.hp,m.next+1⟩ 0
 |_=>none
noncomputable def xej:FnT:=λc h args m=>match args with
 |[t0,t1]=>x9o c h m.next t0 t1 ⟨m.hp,m.next+1⟩ 0
 |_=>none
noncomputable def xek:FnT:=λc h args m=>match args with
 |[t0]=>x9p c h m.next t0 ⟨m.hp,m.next+1⟩ 0
 |_=>none
noncomputable def xel:FnT:=λc h args m=>match args with
 |[t0,t1]=>x9t c h m.next t0 t1 ⟨m.hp,m.next+1⟩ 0
 |_=>none
noncomputable def xem:FnT:=λc h args m=>match args with
 |[t0,t1]=>x9v c h m.next t0 t1 ⟨m.hp,m.next+1⟩ 0
 |_=>none
noncomputable def xen:FnT:=λc h args m=>match args with
 |[t0]=>x9w c h m.next t0 ⟨m.hp,m.next+1⟩ 0
 |_=>none
noncomputable def xeo:FnT:=λc h args m=>match args with
 |[t0,t1]=>x9x c h m.next t0 t1 ⟨m.hp,m.next+1⟩ 0
 |_=>none
noncomputable def xep:FnT:=λc h args m=>match args with
 |[t0]=>xa0 c h m.next t0 ⟨m.hp,m.next+1⟩ 0
 |_=>none
noncomputable def xeq:FnT:=λc h args m=>match args with
 |[t0]=>xa3 c h m.next t0 ⟨m.hp,m.next+1⟩ 0
 |_=>none
noncomputable def xer:FnT:=λc h args m=>match args with
 |[t0]=>xa4 c h m.next t0 ⟨m.hp,m.next+1⟩ 0
 |_=>none
noncomputable def xes:FnT:=λc h args m=>match args with
 |[t0]=>xa5 c h m.next t0 ⟨m.hp,m.next+1⟩ 0
 |_=>none
noncomputable def xet:FnT:=λc h args m=>match args with
 |[t0]=>xa6 c h m.next t0 ⟨m.hp,m.next+1⟩ 0
 |_=>none
noncomputable def xeu:FnT:=λc h args m=>match args with
 |[t0]=>xa9 c h m.next t0 ⟨m.hp,m.next+1⟩ 0
 |_=>none
noncomputable def xev:FnT:=λc h args m=>match args with
 |[t0,t1,t2,t3,t4,t5,t6]=>xab c h m.next t0 t1 t2 t3 t4 t5 t6 ⟨m.hp,m.next+1⟩ 0
 |_=>none
noncomputable def xew:FnT:=λc h args m=>match args with
 |[t0,t1,t2]=>xac c h m.next t0 t1 t2 ⟨m.hp,m.next+1⟩ 0
 |_=>none
noncomputable def xex:FnT:=λc h args m=>match args with
 |[t0]=>xae c h m.next t0 ⟨m.hp,m.next+1⟩ 0
 |_=>none
noncomputable def xey:FnT:=λc h args m=>match args with
 |[t0,t1]=>xag c h m.next t0 t1 ⟨m.hp,m.next+1⟩ 0
 |_=>none
noncomputable def xez:FnT:=λc h args m=>match args with
 |[t0,t1]=>xah c h m.next t0 t1 ⟨m.hp,m.next+1⟩ 0
 |_=>none
noncomputable def xf0:FnT:=λc h args m=>match args with
 |[t0,t1]=>xai c h m.next t0 t1 ⟨m.hp,m.next+1⟩ 0
 |_=>none
noncomputable def x7m:FnT:=λc h args m=>match args with
 |[t0,t1]=>x6z c h m.next t0 t1 ⟨m.hp,m.next+1⟩ 0
 |_=>none
noncomputable def xle:FnT:=λc h args m=>match args with
 |[t0]=>x71 c h m.next t0 ⟨m.hp,m.next+1⟩ 0
 |_=>none
noncomputable def xf1:FnT:=λc h args m=>match args with
 |[t0,t1]=>xan c h m.next t0 t1 ⟨m.hp,m.next+1⟩ 0
 |_=>none
noncomputable def xf2:FnT:=λc h args m=>match args with
 |[t0]=>xao c h m.next t0 ⟨m.hp,m.next+1⟩ 0
 |_=>none
noncomputable def xf3:FnT:=λc h args m=>match args with
 |[t0]=>xaq c h m.next t0 ⟨m.hp,m.next+1⟩ 0
 |_=>none
noncomputable def xdg:FnT:=λc h args m=>match args with
 |[t0,t1,t2]=>xar c h m.next t0 t1 t2 ⟨m.hp,m.next+1⟩ 0
 |_=>none
noncomputable def xf4:FnT:=λc h args m=>match args with
 |[t0]=>xas c h m.next t0 ⟨m.hp,m.next+1⟩ 0
 |_=>none
noncomputable def xf5:FnT:=λc h args m=>match args with
 |[t0]=>xav c h m.next t0 ⟨m.hp,m.next+1⟩ 0
 |_=>none
noncomputable def xf6:FnT:=λc h args m=>match args with
 |[t0,t1]=>xaw c h m.next t0 t1 ⟨m.hp,m.next+1⟩ 0
 |_=>none
noncomputable def xf7:FnT:=λc h args m=>match args with
 |[t0,t1]=>xay c h m.next t0 t1 ⟨m.hp,m.next+1⟩ 0
 |_=>none
noncomputable def xf8:FnT:=λc h args m=>match args with
 |[t0,t1,t2]=>xb0 c h m.next t0 t1 t2 ⟨m.hp,m.next+1⟩ 0
 |_=>none
noncomputable def xf9:FnT:=λc h args m=>match args with
 |[t0,t1]=>xb1 c h m.next t0 t1 ⟨m.hp,m.next+1⟩ 0
 |_=>none
noncomputable def xfa:FnT:=λc h args m=>match args with
 |[t0,t1,t2]=>xb2 c h m.next t0 t1 t2 ⟨m.hp,m.next+1⟩ 0
 |_=>none
noncomputable def xfb:FnT:=λc h args m=>match args with
 |[t0]=>xb5 c h m.next t0 ⟨m.hp,m.next+1⟩ 0
 |_=>none
noncomputable def xfc:FnT:=λc h args m=>match args with
 |[t0]=>xb7 c h m.next t0 ⟨m.hp,m.next+1⟩ 0
 |_=>none
noncomputable def xfd:FnT:=λc h args m=>match args with
 |[t0,t1]=>xb8 c h m.next t0 t1 ⟨m.hp,m.next+1⟩ 0
 |_=>none
noncomputable def xfe:FnT:=λc h args m=>match args with
 |[t0,t1]=>xb9 c h m.next t0 t1 ⟨m.hp,m.next+1⟩ 0
 |_=>none
noncomputable def xff:FnT:=λc h args m=>match args with
 |[t0,t1,t2]=>xba c h m.next t0 t1 t2 ⟨m.hp,m.next+1⟩ 0
 |_=>none
noncomputable def xfg:FnT:=λc h args m=>match args with
 |[t0]=>xbb c h m.next t0 ⟨m.hp,m.next+1⟩ 0
 |_=>none
noncomputable def xfh:FnT:=λc h args m=>match args with
 |[t0,t1,t2,t3]=>xbe c h m.next t0 t1 t2 t3 ⟨m.hp,m.next+1⟩ 0
 |_=>none
noncomputable def xfi:FnT:=λc h args m=>match args with
 |[t0]=>xbg c h m.next t0 ⟨m.hp,m.next+1⟩ 0
 |_=>none
noncomputable def xfj:FnT:=λc h args m=>match args with
 |[t0]=>xbh c h m.next t0 ⟨m.hp,m.next+1⟩ 0
 |_=>none
noncomputable def xfk:FnT:=λc h args m=>match args with
 |[t0]=>xbj c h m.next t0 ⟨m.hp,m.next+1⟩ 0
 |_=>none
noncomputable def xdl:FnT:=λc h args m=>match args with
 |[t0]=>xbk c h m.next t0 ⟨m.hp,m.next+1⟩ 0
 |_=>none
noncomputable def xfl:FnT:=λc h args m=>match args with
 |[t0,t1]=>xbs c h m.next t0 t1 ⟨m.hp,m.next+1⟩ 0
 |_=>none
noncomputable def xlf:FnT:=λc h args m=>match args with
 |[t0]=>x78 c h m.next t0 ⟨m.hp,m.next+1⟩ 0
 |_=>none
noncomputable def xdk:FnT:=λc h args m=>match args with
 |[t0]=>xbv c h m.next t0 ⟨m.hp,m.next+1⟩ 0
 |_=>none
noncomputable def xdj:FnT:=λc h args m=>match args with
 |[t0,t1]=>xbw c h m.next t0 t1 ⟨m.hp,m.next+1⟩ 0
 |_=>none
noncomputable def xfm:FnT:=λc h args m=>match args with
 |[t0]=>xbx c h m.next t0 ⟨m.hp,m.next+1⟩ 0
 |_=>none
noncomputable def xfn:FnT:=λc h args m=>match args with
 |[t0]=>xc1 c h m.next t0 ⟨m.hp,m.next+1⟩ 0
 |_=>none
noncomputable def xfo:FnT:=λc h args m=>match args with
 |[t0,t1]=>xc3 c h m.next t0 t1 ⟨m.hp,m.next+1⟩ 0
 |_=>none
noncomputable def xfp:FnT:=λc h args m=>match args with
 |[t0,t1,t2,t3,t4]=>xc6 c h m.next t0 t1 t2 t3 t4 ⟨m.hp,m.next+1⟩ 0
 |_=>none
noncomputable def xfq:FnT:=λc h args m=>match args with
 |[t0]=>xcb c h m.next t0 ⟨m.hp,m.next+1⟩ 0
 |_=>none
noncomputable def xfr:FnT:=λc h args m=>match args with
 |[t0,t1,t2]=>xce c h m.next t0 t1 t2 ⟨m.hp,m.next+1⟩ 0
 |_=>none
noncomputable def xfs:FnT:=λc h args m=>match args with
 |[t0,t1,t2,t3]=>xcg c h m.next t0 t1 t2 t3 ⟨m.hp,m.next+1⟩ 0
 |_=>none
noncomputable def xft:FnT:=λc h args m=>match args with
 |[t0]=>xch c h m.next t0 ⟨m.hp,m.next+1⟩ 0
 |_=>none
noncomputable def xfu:FnT:=λc h args m=>match args with
 |[t0]=>xcl c h m.next t0 ⟨m.hp,m.next+1⟩ 0
 |_=>none
noncomputable def xfv:FnT:=λc h args m=>match args with
 |[t0,t1]=>xcm c h m.next t0 t1 ⟨m.hp,m.next+1⟩ 0
 |_=>none
noncomputable def xfw:FnT:=λc h args m=>match args with
 |[t0,t1]=>xcn c h m.next t0 t1 ⟨m.hp,m.next+1⟩ 0
 |_=>none
noncomputable def xdh:FnT:=λc h args m=>match args with
 |[t0,t1]=>xcp c h m.next t0 t1 ⟨m.hp,m.next+1⟩ 0
 |_=>none
noncomputable def xfx:FnT:=λc h args m=>match args with
 |[t0,t1]=>xcs c h m.next t0 t1 ⟨m.hp,m.next+1⟩ 0
 |_=>none
noncomputable def xlc:FnT:=λc h args m=>match args with
 |[t0,t1,t2]=>x7g c h m.next t0 t1 t2 ⟨m.hp,m.next+1⟩ 0
 |_=>none
noncomputable def xfy:FnT:=λc h args m=>match args with
 |[t0]=>xcv c h m.next t0 ⟨m.hp,m.next+1⟩ 0
 |_=>none
noncomputable def xlg:FnT:=λc h args m=>match args with
 |[t0,t1]=>xkv c h m.next t0 t1 ⟨m.hp,m.next+1⟩ 0
 |_=>none
noncomputable def xfz:FnT:=λc h args m=>match args with
 |[t0,t1,t2,t3]=>xcz c h m.next t0 t1 t2 t3 ⟨m.hp,m.next+1⟩ 0
 |_=>none
noncomputable def xg0:FnT:=λc h args m=>match args with
 |[t0,t1,t2]=>xd2 c h m.next t0 t1 t2 ⟨m.hp,m.next+1⟩ 0
 |_=>none
noncomputable def xg1:FnT:=λc h args m=>match args with
 |[t0,t1]=>xd3 c h m.next t0 t1 ⟨m.hp,m.next+1⟩ 0
 |_=>none
noncomputable def xg2:FnT:=λc h args m=>match args with
 |[t0]=>xl1 c h m.next t0 ⟨m.hp,m.next+1⟩ 0
 |_=>none
noncomputable def xg3:FnT:=λc h args m=>match args with
 |[t0,t1]=>xd5 c h m.next t0 t1 ⟨m.hp,m.next+1⟩ 0
 |_=>none
noncomputable def xg4:FnT:=λc h args m=>match args with
 |[t0,t1]=>xd8 c h m.next t0 t1 ⟨m.hp,m.next+1⟩ 0
 |_=>none
noncomputable def xdi:FnT:=λc h args m=>match args with
 |[t0,t1]=>xd9 c h m.next t0 t1 ⟨m.hp,m.next+1⟩ 0
 |_=>none
noncomputable def xlb:FnT:=λc h args m=>match args with
 |[t0,t1,t2,t3]=>x6h c h m.next t0 t1 t2 t3 ⟨m.hp,m.next+1⟩ 0
 |_=>none
noncomputable def xg5:FnT:=λc h args m=>match args with
 |[t0]=>xda c h m.next t0 ⟨m.hp,m.next+1⟩ 0
 |_=>none
noncomputable def xdf:FnT:=λc h args m=>match args with
 |[t0,t1,t2]=>xdd c h m.next t0 t1 t2 ⟨m.hp,m.next+1⟩ 0
 |_=>none
end Go.Ix
