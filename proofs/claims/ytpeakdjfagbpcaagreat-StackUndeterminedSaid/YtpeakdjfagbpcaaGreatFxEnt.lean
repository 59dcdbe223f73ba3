import Derived.Test.YtpeakdjfagbpcaaGreatFxText0
set_option linter.unusedVariables false
namespace Go.Ix
open Go.Proofs
noncomputable def xdc:FnT:=λc h args m=>match args with
 |[t0,t1]=>x7y c h m.next t0 t1 ⟨m.hp,m.next+1⟩ 0
 |_=>none
noncomputable def xdd:FnT:=λc h args m=>match args with
 |[t0]=>x81 c h m.next t0 ⟨m.hp,m.next+1⟩ 0
 |_=>none
noncomputable def xde:FnT:=λc h args m=>match args with
 |[t0]=>x82 c h m.next t0 ⟨m.hp,m.next+1⟩ 0
 |_=>none
noncomputable def xdf:FnT:=λc h args m=>match args with
 |[t0]=>x85 c h m.next t0 ⟨m.hp,m.next+1⟩ 0
 |_=>none
noncomputable def xdg:FnT:=λc h args m=>match args with
 |[t0,t1,t2]=>x86 c h m.next t0 t1 t2 ⟨m.hp,m.next+1⟩ 0
 |_=>none
noncomputable def xdh:FnT:=λc h args m=>match args with
 |[t0,t1]=>x88 c h m.next t0 t1 ⟨m.hp,m.next+1⟩ 0
 |_=>none
noncomputable def xdi:FnT:=λc h args m=>match args with
 |[t0]=>x8c c h m.next t0 ⟨m.hp,m.next+1⟩ 0
 |_=>none
noncomputable def xdj:FnT:=λc h args m=>match args with
 |[t0]=>x8f c h m.next t0 ⟨m.hp,m.next+1⟩ 0
 |_=>none
noncomputable def xdk:FnT:=λc h args m=>match args with
 |[t0]=>x8g c h m.next t0 ⟨m.hp,m.next+1⟩ 0
 |_=>none
noncomputable def x47:FnT:=λc h args m=>match args with
 |[t0]=>x37 c h m.next t0 ⟨m.hp,m.next+1⟩ 0
 |_=>none
noncomputable def xdl:FnT:=λc h args m=>match args with
 |[t0]=>x8h c h m.next t0 ⟨m.hp,m.next+1⟩ 0
 |_=>none
noncomputable def xdm:FnT:=λc h args m=>match args with
 |[t0]=>x8j c h m.next t0 ⟨m.hp,m.next+1⟩ 0
 |_=>none
noncomputable def x7t:FnT:=λc h args m=>match args with
 |[t0]=>x6m c h m.next t0 ⟨m.hp,m.next+1⟩ 0
 |_=>none
noncomputable def xdn:FnT:=λc h args m=>match args with
 |[t0]=>x8n c h m.next t0 ⟨m.hp,m.next+1⟩ 0
 |_=>none
noncomputable def xdo:FnT:=λc h args m=>match args with
 |[t0]=>x8p c h m.next t0 ⟨m.hp,m.next+1⟩ 0
 |_=>none
noncomputable def xdp:FnT:=λc h args m=>match args with
 |[t0]=>x8r c h m.next t0 ⟨m.hp,m.next+1⟩ 0
 |_=>none
noncomputable def xdq:FnT:=λc h args m=>match args with
 |[t0,t1]=>x8t c h m.next t0 t1 ⟨m.hp,m.next+1⟩ 0
 |_=>none
noncomputable def xkc:FnT:=λc h args m=>match args with
 |[t0,t1]=>xgk c h m.next t0 t1 ⟨m.hp,m.next+1⟩ 0
 |_=>none
noncomputable def xdr:FnT:=λc h args m=>match args with
 |[t0]=>x8z c h m.next t0 ⟨m.hp,m.next+1⟩ 0
 |_=>none
noncomputable def xds:FnT:=λc h args m=>match args with
 |[t0,t1]=>x90 c h m.next t0 t1 ⟨m.hp,m.next+1⟩ 0
 |_=>none
noncomputable def xdt:FnT:=λc h args m=>match args with
 |[t0]=>x91 c h m.next t0 ⟨m.hp,m.next+1⟩ 0
 |_=>none
noncomputable def xdu:FnT:=λc h args m=>match args with
 |[t0,t1]=>x93 c h m.next t0 t1 ⟨m.hp,m.next+1⟩ 0
 |_=>none
noncomputable def xdv:FnT:=λc h args m=>match args with
 |[t0]=>x94 c h m.next t0 ⟨m.hp,m.next+1⟩ 0
 |_=>none
noncomputable def xdw:FnT:=λc h args m=>match args with
 |[t0,t1,t2]=>x95 c h m.next t0 t1 t2 ⟨m.hp,m.next+1⟩ 0
 |_=>none
noncomputable def xdx:FnT:=λc h args m=>match args with
 |[t0,t1]=>x97 c h m.next t0 t1 ⟨m.hp,m.next+1⟩ 0
 |_=>none
noncomputable def xdy:FnT:=λc h args m=>match args with
 |[t0,t1]=>x99 c h m.next t0 t1 ⟨m.hp,m.next+1⟩ 0
 |_=>none
noncomputable def xdz:FnT:=λc h args m=>match args with
 |[t0]=>x9b c h m.next t0 ⟨m.hp,m.next+1⟩ 0
 |_=>none
noncomputable def xe0:FnT:=λc h args m=>match args with
 |[t0,t1]=>x9d c h m.next t0 t1 ⟨m.hp,m.next+1⟩ 0
 |_=>none
noncomputable def xe1:FnT:=λc h args m=>match args with
 |[t0]=>x9f c h m.next t0 ⟨m.hp,m.next+1⟩ 0
 |_=>none
noncomputable def xe2:FnT:=λc h args m=>match args with
 |[t0,t1]=>x9g c h m.next t0 t1 ⟨m.hp,m.next+1⟩ 0
 |_=>none
noncomputable def xe3:FnT:=λc h args m=>match args with
 |[t0]=>x9i c h m.next t0 ⟨m.hp,m.next+1⟩ 0
 |_=>none
noncomputable def xe4:FnT:=λc h args m=>match args with
 |[t0]=>x9j c h m.next t0 ⟨m.hp,m.next+1⟩ 0
 |_=>none
noncomputable def xe5:FnT:=λc h args m=>match args with
 |[t0]=>x9l c h m.next t0 ⟨m.hp,m.next+1⟩ 0
 |_=>none
noncomputable def xe6:FnT:=λc h args m=>match args with
 |[t0,t1]=>x9o c h m.next t0 t1 ⟨m.hp,m.next+1⟩ 0
 |_=>none
noncomputable def xe7:FnT:=λc h args m=>match args with
 |[t0]=>x9r c h m.next t0 ⟨m.hp,m.next+1⟩ 0
 |_=>none
noncomputable def xe8:FnT:=λc h args m=>match args with
 |[t0,t1]=>x9w c h m.next t0 t1 ⟨m.hp,m.next+1⟩ 0
 |_=>none
noncomputable def xe9:FnT:=λc h args m=>match args with
 |[t0,t1]=>x9x c h m.next t0 t1 ⟨m.hp,m.next+1⟩ 0
 |_=>none
noncomputable def x7u:FnT:=λc h args m=>match args with
 |[t0]=>x6p c h m.next t0 ⟨m.hp,m.next+1⟩ 0
 |_=>none
noncomputable def xea:FnT:=λc h args m=>match args with
 |[t0]=>x9y c h m.next t0 ⟨m.hp,m.next+1⟩ 0
 |_=>none
noncomputable def xeb:FnT:=λc h args m=>match args with
 |[t0,t1]=>x9z c h m.next t0 t1 ⟨m.hp,m.next+1⟩ 0
 |_=>none
noncomputable def xec:FnT:=λc h args m=>match args with
 |[t0]=>xa0 c h m.next t0 ⟨m.hp,m.next+1⟩ 0
 |_=>none
noncomputable def xed:FnT:=λc h args m=>match args with
 |[t0,t1,t2,t3]=>xa1 c h m.next t0 t1 t2 t3 ⟨m.hp,m.next+1⟩ 0
 |_=>none
noncomputable def xkd:FnT:=λc h args m=>match args with
 |[t0]=>x6s c h m.next t0 ⟨m.hp,m.next+1⟩ 0
 |_=>none
noncomputable def xee:FnT:=λc h args m=>match args with
 |[t0]=>xa2 c h m.next t0 ⟨m.hp,m.next+1⟩ 0
 |_=>none
noncomputable def xef:FnT:=λc h args m=>match args with
 |[t0]=>xa3 c h m.next t0 ⟨m.hp,m.next+1⟩ 0
 |_=>none
noncomputable def xeg:FnT:=λc h args m=>match args with
 |[t0]=>xa4 c h m.next t0 ⟨m.hp,m.next+1⟩ 0
 |_=>none
noncomputable def xeh:FnT:=λc h args m=>match args with
 |[t0]=>xa5 c h m.next t0 ⟨m.hp,m.next+1⟩ 0
 |_=>none
noncomputable def xei:FnT:=λc h args m=>match args with
 |[t0,t1]=>xa7 c h m.next t0 t1 ⟨m.hp,m.next+1⟩ 0
 |_=>none
noncomputable def xej:FnT:=λc h args m=>match args with
 |[t0,t1]=>xa8 c h m.next t0 t1 ⟨m.hp,m.next+1⟩ 0
 |_=>none
noncomputable def xek:FnT:=λc h args m=>match args with
 |[t0,t1]=>xa9 c h m.next t0 t1 ⟨m.hp,m.next+1⟩ 0
 |_=>none
noncomputable def xel:FnT:=λc h args m=>match args with
 |[t0]=>xac c h m.next t0 ⟨m.hp,m.next+1⟩ 0
 |_=>none
noncomputable def xem:FnT:=λc h args m=>match args with
 |[t0]=>xad c h m.next t0 ⟨m.hp,m.next+1⟩ 0
 |_=>none
noncomputable def xen:FnT:=λc h args m=>match args with
 |[t0]=>xae c h m.next t0 ⟨m.hp,m.next+1⟩ 0
 |_=>none
noncomputable def xeo:FnT:=λc h args m=>match args with
 |[t0,t1,t2,t3]=>xaj c h m.next t0 t1 t2 t3 ⟨m.hp,m.next+1⟩ 0
 |_=>none
noncomputable def xep:FnT:=λc h args m=>match args with
 |[t0,t1,t2,t3,t4,t5,t6]=>xal c h m.next t0 t1 t2 t3 t4 t5 t6 ⟨m.hp,m.next+1⟩ 0
 |_=>none
noncomputable def xeq:FnT:=λc h args m=>match args with
 |[t0,t1,t2]=>xam c h m.next t0 t1 t2 ⟨m.hp,m.next+1⟩ 0
 |_=>none
noncomputable def xer:FnT:=λc h args m=>match args with
 |[t0]=>xaq c h m.next t0 ⟨m.hp,m.next+1⟩ 0
 |_=>none
noncomputable def xes:FnT:=λc h args m=>match args with
 |[t0,t1]=>xar c h m.next t0 t1 ⟨m.hp,m.next+1⟩ 0
 |_=>none
noncomputable def xet:FnT:=λc h args m=>match args with
 |[t0,t1]=>xas c h m.next t0 t1 ⟨m.hp,m.next+1⟩ 0
 |_=>none
noncomputable def xeu:FnT:=λc h args m=>match args with
 |[t0]=>xau c h m.next t0 ⟨m.hp,m.next+1⟩ 0
 |_=>none
noncomputable def xev:FnT:=λc h args m=>match args with
 |[t0,t1]=>xav c h m.next t0 t1 ⟨m.hp,m.next+1⟩ 0
 |_=>none
noncomputable def x7s:FnT:=λc h args m=>match args with
 |[t0,t1]=>x6w c h m.next t0 t1 ⟨m.hp,m.next+1⟩ 0
 |_=>none
noncomputable def xew:FnT:=λc h args m=>match args with
 |[t0]=>xaz c h m.next t0 ⟨m.hp,m.next+1⟩ 0
 |_=>none
noncomputable def xex:FnT:=λc h args m=>match args with
 |[t0]=>xb0 c h m.next t0 ⟨m.hp,m.next+1⟩ 0
 |_=>none
noncomputable def xke:FnT:=λc h args m=>match args with
 |[t0]=>x6x c h m.next t0 ⟨m.hp,m.next+1⟩ 0
 |_=>none
noncomputable def xey:FnT:=λc h args m=>match args with
 |[t0,t1]=>xba c h m.next t0 t1 ⟨m.hp,m.next+1⟩ 0
 |_=>none
noncomputable def xez:FnT:=λc h args m=>match args with
 |[t0,t1,t2]=>xbe c h m.next t0 t1 t2 ⟨m.hp,m.next+1⟩ 0
 |_=>none
noncomputable def xkf:FnT:=λc h args m=>match args with
 |[t0]=>x75 c h m.next t0 ⟨m.hp,m.next+1⟩ 0
 |_=>none
noncomputable def xf0:FnT:=λc h args m=>match args with
 |[t0,t1]=>xbh c h m.next t0 t1 ⟨m.hp,m.next+1⟩ 0
 |_=>none
noncomputable def xf1:FnT:=λc h args m=>match args with
 |[t0,t1]=>xbi c h m.next t0 t1 ⟨m.hp,m.next+1⟩ 0
 |_=>none
noncomputable def xf2:FnT:=λc h args m=>match args with
 |[t0,t1,t2]=>xbj c h m.next t0 t1 t2 ⟨m.hp,m.next+1⟩ 0
 |_=>none
noncomputable def xf3:FnT:=λc h args m=>match args with
 |[t0]=>xbk c h m.next t0 ⟨m.hp,m.next+1⟩ 0
 |_=>none
noncomputable def xf4:FnT:=λc h args m=>match args with
 |[t0,t1,t2,t3]=>xbn c h m.next t0 t1 t2 t3 ⟨m.hp,m.next+1⟩ 0
 |_=>none
noncomputable def xf5:FnT:=λc h args m=>match args with
 |[t0,t1]=>xbp c h m.next t0 t1 ⟨m.hp,m.next+1⟩ 0
 |_=>none
noncomputable def xf6:FnT:=λc h args m=>match args with
 |[t0]=>xbq c h m.next t0 ⟨m.hp,m.next+1⟩ 0
 |_=>none
noncomputable def xf7:FnT:=λc h args m=>match args with
 |[t0]=>xbs c h m.next t0 ⟨m.hp,m.next+1⟩ 0
 |_=>none
noncomputable def xkg:FnT:=λc h args m=>match args with
 |[t0,t1]=>x79 c h m.next t0 t1 ⟨m.hp,m.next+1⟩ 0
 |_=>none
noncomputable def xf8:FnT:=λc h args m=>match args with
 |[t0,t1]=>xbw c h m.next t0 t1 ⟨m.hp,m.next+1⟩ 0
 |_=>none
noncomputable def xkb:FnT:=λc h args m=>match args with
 |[t0,t1,t2,t3]=>x7d c h m.next t0 t1 t2 t3 ⟨m.hp,m.next+1⟩ 0
 |_=>none
noncomputable def xf9:FnT:=λc h args m=>match args with
 |[t0,t1]=>xby c h m.next t0 t1 ⟨m.hp,m.next+1⟩ 0
 |_=>none
noncomputable def xfa:FnT:=λc h args m=>match args with
 |[t0]=>xc0 c h m.next t0 ⟨m.hp,m.next+1⟩ 0
 |_=>none
noncomputable def xdb:FnT:=λc h args m=>match args with
 |[t0]=>xc1 c h m.next t0 ⟨m.hp,m.next+1⟩ 0
 |_=>none
noncomputable def xfb:FnT:=λc h args m=>match args with
 |[t0,t1]=>xc9 c h m.next t0 t1 ⟨m.hp,m.next+1⟩ 0
 |_=>none
noncomputable def xkh:FnT:=λc h args m=>match args with
 |[t0]=>x7j c h m.next t0 ⟨m.hp,m.next+1⟩ 0
 |_=>none
noncomputable def xda:FnT:=λc h args m=>match args with
 |[t0]=>xcc c h m.next t0 ⟨m.hp,m.next+1⟩ 0
 |_=>none
noncomputable def xd9:FnT:=λc h args m=>match args with
 |[t0,t1]=>xcd c h m.next t0 t1 ⟨m.hp,m.next+1⟩ 0
 |_=>none
noncomputable def xfc:FnT:=λc h args m=>match args with
 |[t0,t1,t2]=>xcg c h m.next t0 t1 t2 ⟨m.hp,m.next+1⟩ 0
 |_=>none
noncomputable def xfd:FnT:=λc h args m=>match args with
 |[t0,t1,t2,t3]=>xci c h m.next t0 t1 t2 t3 ⟨m.hp,m.next+1⟩ 0
 |_=>none
noncomputable def xfe:FnT:=λc h args m=>match args with
 |[t0]=>xcj c h m.next t0 ⟨m.hp,m.next+1⟩ 0
 |_=>none
noncomputable def xd6:FnT:=λc h args m=>match args with
 |[t0,t1,t2]=>xck c h m.next t0 t1 t2 ⟨m.hp,m.next+1⟩ 0
 |_=>none
noncomputable def xff:FnT:=λc h args m=>match args with
 |[t0]=>xcl c h m.next t0 ⟨m.hp,m.next+1⟩ 0
 |_=>none
noncomputable def xd7:FnT:=λc h args m=>match args with
 |[t0,t1]=>xcn c h m.next t0 t1 ⟨m.hp,m.next+1⟩ 0
 |_=>none
noncomputable def xfg:FnT:=λc h args m=>match args with
 |[t0,t1]=>xcq c h m.next t0 t1 ⟨m.hp,m.next+1⟩ 0
 |_=>none
noncomputable def xk9:FnT:=λc h args m=>match args with
 |[t0,t1,t2,t3]=>x6f c h m.next t0 t1 t2 t3 ⟨m.hp,m.next+1⟩ 0
 |_=>none
noncomputable def xka:FnT:=λc h args m=>match args with
 |[t0,t1,t2]=>x7m c h m.next t0 t1 t2 ⟨m.hp,m.next+1⟩ 0
 |_=>none
noncomputable def xfh:FnT:=λc h args m=>match args with
 |[t0,t1,t2,t3]=>xcu c h m.next t0 t1 t2 t3 ⟨m.hp,m.next+1⟩ 0
 |_=>none
noncomputable def xfi:FnT:=λc h args m=>match args with
 |[t0,t1,t2]=>xcx c h m.next t0 t1 t2 ⟨m.hp,m.next+1⟩ 0
 |_=>none
noncomputable def xfj:FnT:=λc h args m=>match args with
 |[t0,t1]=>xcy c h m.next t0 t1 ⟨m.hp,m.next+1⟩ 0
 |_=>none
noncomputable def xfk:FnT:=λc h args m=>match args with
 |[t0]=>xk7 c h m.next t0 ⟨m.hp,m.next+1⟩ 0
 |_=>none
noncomputable def xd8:FnT:=λc h args m=>match args with
 |[t0,t1]=>xcz c h m.next t0 t1 ⟨m.hp,m.next+1⟩ 0
 |_=>none
noncomputable def xfl:FnT:=λc h args m=>match args with
 |[t0]=>xd0 c h m.next t0 ⟨m.hp,m.next+1⟩ 0
 |_=>none
noncomputable def xd5:FnT:=λc h args m=>match args with
 |[t0,t1,t2]=>xd3 c h m.next t0 t1 t2 ⟨m.hp,m.next+1⟩ 0
 |_=>none
end Go.Ix
