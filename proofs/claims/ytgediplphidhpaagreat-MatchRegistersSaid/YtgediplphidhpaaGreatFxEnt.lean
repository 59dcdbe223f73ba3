import Derived.Test.YtgediplphidhpaaGreatFxText0
set_option linter.unusedVariables false
namespace Go.Ix
open Go.Proofs
noncomputable def xcr:FnT:=λc h args m=>match args with
 |[t0,t1,t2]=>x7y c h m.next t0 t1 t2 ⟨m.hp,m.next+1⟩ 0
 |_=>none
noncomputable def xcs:FnT:=λc h args m=>match args with
 |[t0]=>x80 c h m.next t0 ⟨m.hp,m.next+1⟩ 0
 |_=>none
noncomputable def xct:FnT:=λc h args m=>match args with
 |[t0]=>x81 c h m.next t0 ⟨m.hp,m.next+1⟩ 0
 |_=>none
noncomputable def x7r:FnT:=λc h args m=>match args with
 |[t0,t1,t2]=>x61 c h m.next t0 t1 t2 ⟨m.hp,m.next+1⟩ 0
 |_=>none
noncomputable def xcu:FnT:=λc h args m=>match args with
 |[t0]=>x84 c h m.next t0 ⟨m.hp,m.next+1⟩ 0
 |_=>none
noncomputable def xcv:FnT:=λc h args m=>match args with
 |[t0]=>x85 c h m.next t0 ⟨m.hp,m.next+1⟩ 0
 |_=>none
noncomputable def xcw:FnT:=λc h args m=>match args with
 |[t0,t1,t2]=>x87 c h m.next t0 t1 t2 ⟨m.hp,m.next+1⟩ 0
 |_=>none
noncomputable def xcx:FnT:=λc h args m=>match args with
 |[t0,t1]=>x88 c h m.next t0 t1 ⟨m.hp,m.next+1⟩ 0
 |_=>none
noncomputable def xcy:FnT:=λc h args m=>match args with
 |[t0,t1]=>x8a c h m.next t0 t1 ⟨m.hp,m.next+1⟩ 0
 |_=>none
noncomputable def xcz:FnT:=λc h args m=>match args with
 |[t0,t1,t2]=>x8c c h m.next t0 t1 t2 ⟨m.hp,m.next+1⟩ 0
 |_=>none
noncomputable def xd0:FnT:=λc h args m=>match args with
 |[t0]=>x8d c h m.next t0 ⟨m.hp,m.next+1⟩ 0
 |_=>none
noncomputable def xd1:FnT:=λc h args m=>match args with
 |[t0]=>x8e c h m.next t0 ⟨m.hp,m.next+1⟩ 0
 |_=>none
noncomputable def x5u:FnT:=λc h args m=>match args with
 |[t0,t1]=>x4v c h m.next t0 t1 ⟨m.hp,m.next+1⟩ 0
 |_=>none
noncomputable def xd2:FnT:=λc h args m=>match args with
 |[t0]=>x8f c h m.next t0 ⟨m.hp,m.next+1⟩ 0
 |_=>none
noncomputable def xd3:FnT:=λc h args m=>match args with
 |[t0,t1]=>x8i c h m.next t0 t1 ⟨m.hp,m.next+1⟩ 0
 |_=>none
noncomputable def xd4:FnT:=λc h args m=>match args with
 |[t0]=>x8m c h m.next t0 ⟨m.hp,m.next+1⟩ 0
 |_=>none
noncomputable def xd5:FnT:=λc h args m=>match args with
 |[t0]=>x8q c h m.next t0 ⟨m.hp,m.next+1⟩ 0
 |_=>none
noncomputable def xd6:FnT:=λc h args m=>match args with
 |[t0,t1]=>x8v c h m.next t0 t1 ⟨m.hp,m.next+1⟩ 0
 |_=>none
noncomputable def xd7:FnT:=λc h args m=>match args with
 |[t0]=>x8w c h m.next t0 ⟨m.hp,m.next+1⟩ 0
 |_=>none
noncomputable def xd8:FnT:=λc h args m=>match args with
 |[t0,t1,t2]=>x8x c h m.next t0 t1 t2 ⟨m.hp,m.next+1⟩ 0
 |_=>none
noncomputable def x7s:FnT:=λc h args m=>match args with
 |[t0,t1]=>x6h c h m.next t0 t1 ⟨m.hp,m.next+1⟩ 0
 |_=>none
noncomputable def xd9:FnT:=λc h args m=>match args with
 |[t0]=>x8z c h m.next t0 ⟨m.hp,m.next+1⟩ 0
 |_=>none
noncomputable def x7t:FnT:=λc h args m=>match args with
 |[t0,t1]=>x6i c h m.next t0 t1 ⟨m.hp,m.next+1⟩ 0
 |_=>none
noncomputable def xda:FnT:=λc h args m=>match args with
 |[t0]=>x97 c h m.next t0 ⟨m.hp,m.next+1⟩ 0
 |_=>none
noncomputable def xdb:FnT:=λc h args m=>match args with
 |[t0]=>x9c c h m.next t0 ⟨m.hp,m.next+1⟩ 0
 |_=>none
noncomputable def xdc:FnT:=λc h args m=>match args with
 |[t0,t1]=>x9h c h m.next t0 t1 ⟨m.hp,m.next+1⟩ 0
 |_=>none
noncomputable def xdd:FnT:=λc h args m=>match args with
 |[t0,t1]=>x9j c h m.next t0 t1 ⟨m.hp,m.next+1⟩ 0
 |_=>none
noncomputable def xde:FnT:=λc h args m=>match args with
 |[t0]=>x9m c h m.next t0 ⟨m.hp,m.next+1⟩ 0
 |_=>none
noncomputable def x7u:FnT:=λc h args m=>match args with
 |[t0,t1,t2]=>x6t c h m.next t0 t1 t2 ⟨m.hp,m.next+1⟩ 0
 |_=>none
noncomputable def xdf:FnT:=λc h args m=>match args with
 |[t0,t1,t2]=>x9p c h m.next t0 t1 t2 ⟨m.hp,m.next+1⟩ 0
 |_=>none
noncomputable def xdg:FnT:=λc h args m=>match args with
 |[t0,t1,t2]=>x9r c h m.next t0 t1 t2 ⟨m.hp,m.next+1⟩ 0
 |_=>none
noncomputable def xdh:FnT:=λc h args m=>match args with
 |[t0]=>x9s c h m.next t0 ⟨m.hp,m.next+1⟩ 0
 |_=>none
noncomputable def xdi:FnT:=λc h args m=>match args with
 |[t0,t1,t2]=>x9x c h m.next t0 t1 t2 ⟨m.hp,m.next+1⟩ 0
 |_=>none
noncomputable def x5v:FnT:=λc h args m=>match args with
 |[t0,t1]=>x5d c h m.next t0 t1 ⟨m.hp,m.next+1⟩ 0
 |_=>none
noncomputable def xdj:FnT:=λc h args m=>match args with
 |[t0]=>xa0 c h m.next t0 ⟨m.hp,m.next+1⟩ 0
 |_=>none
noncomputable def xdk:FnT:=λc h args m=>match args with
 |[t0]=>xa3 c h m.next t0 ⟨m.hp,m.next+1⟩ 0
 |_=>none
noncomputable def x7v:FnT:=λc h args m=>match args with
 |[t0]=>x71 c h m.next t0 ⟨m.hp,m.next+1⟩ 0
 |_=>none
noncomputable def xdl:FnT:=λc h args m=>match args with
 |[t0,t1]=>xa5 c h m.next t0 t1 ⟨m.hp,m.next+1⟩ 0
 |_=>none
noncomputable def xdm:FnT:=λc h args m=>match args with
 |[t0,t1,t2]=>xa6 c h m.next t0 t1 t2 ⟨m.hp,m.next+1⟩ 0
 |_=>none
noncomputable def xdn:FnT:=λc h args m=>match args with
 |[t0]=>xa8 c h m.next t0 ⟨m.hp,m.next+1⟩ 0
 |_=>none
noncomputable def x7w:FnT:=λc h args m=>match args with
 |[t0,t1]=>x75 c h m.next t0 t1 ⟨m.hp,m.next+1⟩ 0
 |_=>none
noncomputable def xdo:FnT:=λc h args m=>match args with
 |[t0,t1,t2]=>xaf c h m.next t0 t1 t2 ⟨m.hp,m.next+1⟩ 0
 |_=>none
noncomputable def xdp:FnT:=λc h args m=>match args with
 |[t0,t1,t2,t3]=>xah c h m.next t0 t1 t2 t3 ⟨m.hp,m.next+1⟩ 0
 |_=>none
noncomputable def xdq:FnT:=λc h args m=>match args with
 |[t0]=>xak c h m.next t0 ⟨m.hp,m.next+1⟩ 0
 |_=>none
noncomputable def xdr:FnT:=λc h args m=>match args with
 |[t0]=>xas c h m.next t0 ⟨m.hp,m.next+1⟩ 0
 |_=>none
noncomputable def xds:FnT:=λc h args m=>match args with
 |[t0]=>xat c h m.next t0 ⟨m.hp,m.next+1⟩ 0
 |_=>none
noncomputable def xdt:FnT:=λc h args m=>match args with
 |[t0,t1]=>xav c h m.next t0 t1 ⟨m.hp,m.next+1⟩ 0
 |_=>none
noncomputable def xdu:FnT:=λc h args m=>match args with
 |[t0,t1,t2]=>xaw c h m.next t0 t1 t2 ⟨m.hp,m.next+1⟩ 0
 |_=>none
noncomputable def xdv:FnT:=λc h args m=>match args with
 |[t0,t1,t2]=>xb4 c h m.next t0 t1 t2 ⟨m.hp,m.next+1⟩ 0
 |_=>none
noncomputable def xdw:FnT:=λc h args m=>match args with
 |[t0,t1]=>xb5 c h m.next t0 t1 ⟨m.hp,m.next+1⟩ 0
 |_=>none
noncomputable def xdx:FnT:=λc h args m=>match args with
 |[t0,t1]=>xb6 c h m.next t0 t1 ⟨m.hp,m.next+1⟩ 0
 |_=>none
noncomputable def xdy:FnT:=λc h args m=>match args with
 |[t0,t1]=>xb7 c h m.next t0 t1 ⟨m.hp,m.next+1⟩ 0
 |_=>none
noncomputable def xdz:FnT:=λc h args m=>match args with
 |[t0,t1]=>xb8 c h m.next t0 t1 ⟨m.hp,m.next+1⟩ 0
 |_=>none
noncomputable def xe0:FnT:=λc h args m=>match args with
 |[t0]=>xb9 c h m.next t0 ⟨m.hp,m.next+1⟩ 0
 |_=>none
noncomputable def xe1:FnT:=λc h args m=>match args with
 |[t0,t1]=>xba c h m.next t0 t1 ⟨m.hp,m.next+1⟩ 0
 |_=>none
noncomputable def xe2:FnT:=λc h args m=>match args with
 |[t0]=>xbb c h m.next t0 ⟨m.hp,m.next+1⟩ 0
 |_=>none
noncomputable def xe3:FnT:=λc h args m=>match args with
 |[t0,t1]=>xbc c h m.next t0 t1 ⟨m.hp,m.next+1⟩ 0
 |_=>none
noncomputable def x5w:FnT:=λc h args m=>match args with
 |[t0,t1,t2]=>x5m c h m.next t0 t1 t2 ⟨m.hp,m.next+1⟩ 0
 |_=>none
noncomputable def xe4:FnT:=λc h args m=>match args with
 |[t0,t1]=>xbd c h m.next t0 t1 ⟨m.hp,m.next+1⟩ 0
 |_=>none
noncomputable def xe5:FnT:=λc h args m=>match args with
 |[t0]=>xbe c h m.next t0 ⟨m.hp,m.next+1⟩ 0
 |_=>none
noncomputable def xcq:FnT:=λc h args m=>match args with
 |[t0,t1]=>xbf c h m.next t0 t1 ⟨m.hp,m.next+1⟩ 0
 |_=>none
noncomputable def x7x:FnT:=λc h args m=>match args with
 |[t0,t1,t2]=>x7d c h m.next t0 t1 t2 ⟨m.hp,m.next+1⟩ 0
 |_=>none
noncomputable def xe6:FnT:=λc h args m=>match args with
 |[t0,t1]=>xbm c h m.next t0 t1 ⟨m.hp,m.next+1⟩ 0
 |_=>none
noncomputable def xe7:FnT:=λc h args m=>match args with
 |[t0,t1,t2]=>xbn c h m.next t0 t1 t2 ⟨m.hp,m.next+1⟩ 0
 |_=>none
noncomputable def xe8:FnT:=λc h args m=>match args with
 |[t0,t1]=>xbo c h m.next t0 t1 ⟨m.hp,m.next+1⟩ 0
 |_=>none
noncomputable def xe9:FnT:=λc h args m=>match args with
 |[t0,t1,t2]=>xbt c h m.next t0 t1 t2 ⟨m.hp,m.next+1⟩ 0
 |_=>none
noncomputable def xea:FnT:=λc h args m=>match args with
 |[t0,t1]=>xbu c h m.next t0 t1 ⟨m.hp,m.next+1⟩ 0
 |_=>none
noncomputable def xeb:FnT:=λc h args m=>match args with
 |[t0,t1]=>xbv c h m.next t0 t1 ⟨m.hp,m.next+1⟩ 0
 |_=>none
noncomputable def xec:FnT:=λc h args m=>match args with
 |[t0,t1,t2]=>xbw c h m.next t0 t1 t2 ⟨m.hp,m.next+1⟩ 0
 |_=>none
noncomputable def xed:FnT:=λc h args m=>match args with
 |[t0,t1]=>xbx c h m.next t0 t1 ⟨m.hp,m.next+1⟩ 0
 |_=>none
noncomputable def xee:FnT:=λc h args m=>match args with
 |[t0,t1,t2]=>xbz c h m.next t0 t1 t2 ⟨m.hp,m.next+1⟩ 0
 |_=>none
noncomputable def xef:FnT:=λc h args m=>match args with
 |[t0]=>xc0 c h m.next t0 ⟨m.hp,m.next+1⟩ 0
 |_=>none
noncomputable def xeg:FnT:=λc h args m=>match args with
 |[t0]=>xc2 c h m.next t0 ⟨m.hp,m.next+1⟩ 0
 |_=>none
noncomputable def xeh:FnT:=λc h args m=>match args with
 |[t0,t1]=>xc3 c h m.next t0 t1 ⟨m.hp,m.next+1⟩ 0
 |_=>none
noncomputable def xei:FnT:=λc h args m=>match args with
 |[t0,t1]=>xc4 c h m.next t0 t1 ⟨m.hp,m.next+1⟩ 0
 |_=>none
noncomputable def xej:FnT:=λc h args m=>match args with
 |[t0,t1]=>xc6 c h m.next t0 t1 ⟨m.hp,m.next+1⟩ 0
 |_=>none
noncomputable def xek:FnT:=λc h args m=>match args with
 |[t0,t1,t2]=>xc7 c h m.next t0 t1 t2 ⟨m.hp,m.next+1⟩ 0
 |_=>none
noncomputable def xel:FnT:=λc h args m=>match args with
 |[t0,t1]=>xc9 c h m.next t0 t1 ⟨m.hp,m.next+1⟩ 0
 |_=>none
noncomputable def xem:FnT:=λc h args m=>match args with
 |[t0]=>xca c h m.next t0 ⟨m.hp,m.next+1⟩ 0
 |_=>none
noncomputable def xen:FnT:=λc h args m=>match args with
 |[t0]=>xcb c h m.next t0 ⟨m.hp,m.next+1⟩ 0
 |_=>none
noncomputable def xeo:FnT:=λc h args m=>match args with
 |[t0,t1,t2]=>xcc c h m.next t0 t1 t2 ⟨m.hp,m.next+1⟩ 0
 |_=>none
noncomputable def xep:FnT:=λc h args m=>match args with
 |[t0,t1,t2,t3,t4]=>xcd c h m.next t0 t1 t2 t3 t4 ⟨m.hp,m.next+1⟩ 0
 |_=>none
noncomputable def xeq:FnT:=λc h args m=>match args with
 |[t0]=>xce c h m.next t0 ⟨m.hp,m.next+1⟩ 0
 |_=>none
noncomputable def xer:FnT:=λc h args m=>match args with
 |[t0,t1]=>xcf c h m.next t0 t1 ⟨m.hp,m.next+1⟩ 0
 |_=>none
noncomputable def xes:FnT:=λc h args m=>match args with
 |[t0]=>xcg c h m.next t0 ⟨m.hp,m.next+1⟩ 0
 |_=>none
noncomputable def xet:FnT:=λc h args m=>match args with
 |[t0,t1,t2]=>xch c h m.next t0 t1 t2 ⟨m.hp,m.next+1⟩ 0
 |_=>none
noncomputable def xeu:FnT:=λc h args m=>match args with
 |[t0,t1]=>xci c h m.next t0 t1 ⟨m.hp,m.next+1⟩ 0
 |_=>none
noncomputable def xev:FnT:=λc h args m=>match args with
 |[t0]=>xcj c h m.next t0 ⟨m.hp,m.next+1⟩ 0
 |_=>none
noncomputable def xew:FnT:=λc h args m=>match args with
 |[t0]=>xck c h m.next t0 ⟨m.hp,m.next+1⟩ 0
 |_=>none
noncomputable def xex:FnT:=λc h args m=>match args with
 |[t0]=>xcl c h m.next t0 ⟨m.hp,m.next+1⟩ 0
 |_=>none
noncomputable def xey:FnT:=λc h args m=>match args with
 |[t0,t1]=>xcm c h m.next t0 t1 ⟨m.hp,m.next+1⟩ 0
 |_=>none
noncomputable def xez:FnT:=λc h args m=>match args with
 |[t0]=>xcn c h m.next t0 ⟨m.hp,m.next+1⟩ 0
 |_=>none
noncomputable def xf0:FnT:=λc h args m=>match args with
 |[t0]=>xco c h m.next t0 ⟨m.hp,m.next+1⟩ 0
 |_=>none
end Go.Ix
