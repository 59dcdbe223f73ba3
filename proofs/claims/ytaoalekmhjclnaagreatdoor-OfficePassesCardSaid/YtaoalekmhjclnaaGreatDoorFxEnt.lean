import Derived.Test.YtaoalekmhjclnaaGreatDoorFxText0
import Derived.Test.YtaoalekmhjclnaaGreatDoorFxText1
set_option linter.unusedVariables false
namespace Go.Ix
open Go.Proofs
noncomputable def x96:FnT:=λc h args m=>match args with
 |[t0,t1]=>x7d c h m.next t0 t1 ⟨m.hp,m.next+1⟩ 0
 |_=>none
noncomputable def xt2:FnT:=λc h args m=>match args with
 |[]=>x9w c h m.next ⟨m.hp,m.next+1⟩ 0
 |_=>none
noncomputable def xt3:FnT:=λc h args m=>match args with
 |[t0]=>xa2 c h m.next t0 ⟨m.hp,m.next+1⟩ 0
 |_=>none
noncomputable def xt4:FnT:=λc h args m=>match args with
 |[t0,t1]=>xa4 c h m.next t0 t1 ⟨m.hp,m.next+1⟩ 0
 |_=>none
noncomputable def x97:FnT:=λc h args m=>match args with
 |[t0]=>x7j c h m.next t0 ⟨m.hp,m.next+1⟩ 0
 |_=>none
noncomputable def x98:FnT:=λc h args m=>match args with
 |[t0]=>x7n c h m.next t0 ⟨m.hp,m.next+1⟩ 0
 |_=>none
noncomputable def x99:FnT:=λc h args m=>match args with
 |[t0]=>x7o c h m.next t0 ⟨m.hp,m.next+1⟩ 0
 |_=>none
noncomputable def x9a:FnT:=λc h args m=>match args with
 |[t0,t1]=>x7q c h m.next t0 t1 ⟨m.hp,m.next+1⟩ 0
 |_=>none
noncomputable def x47:FnT:=λc h args m=>match args with
 |[t0]=>x3t c h m.next t0 ⟨m.hp,m.next+1⟩ 0
 |_=>none
noncomputable def x9b:FnT:=λc h args m=>match args with
 |[t0]=>x7u c h m.next t0 ⟨m.hp,m.next+1⟩ 0
 |_=>none
noncomputable def x9c:FnT:=λc h args m=>match args with
 |[t0,t1]=>x7w c h m.next t0 t1 ⟨m.hp,m.next+1⟩ 0
 |_=>none
noncomputable def x48:FnT:=λc h args m=>match args with
 |[t0]=>x3v c h m.next t0 ⟨m.hp,m.next+1⟩ 0
 |_=>none
noncomputable def x9d:FnT:=λc h args m=>match args with
 |[t0,t1]=>x81 c h m.next t0 t1 ⟨m.hp,m.next+1⟩ 0
 |_=>none
noncomputable def x9e:FnT:=λc h args m=>match args with
 |[t0]=>x83 c h m.next t0 ⟨m.hp,m.next+1⟩ 0
 |_=>none
noncomputable def x9f:FnT:=λc h args m=>match args with
 |[t0,t1]=>x85 c h m.next t0 t1 ⟨m.hp,m.next+1⟩ 0
 |_=>none
noncomputable def xt5:FnT:=λc h args m=>match args with
 |[t0,t1,t2]=>xam c h m.next t0 t1 t2 ⟨m.hp,m.next+1⟩ 0
 |_=>none
noncomputable def xt6:FnT:=λc h args m=>match args with
 |[]=>xan c h m.next ⟨m.hp,m.next+1⟩ 0
 |_=>none
noncomputable def xt7:FnT:=λc h args m=>match args with
 |[]=>xao c h m.next ⟨m.hp,m.next+1⟩ 0
 |_=>none
noncomputable def xt8:FnT:=λc h args m=>match args with
 |[t0,t1,t2]=>xap c h m.next t0 t1 t2 ⟨m.hp,m.next+1⟩ 0
 |_=>none
noncomputable def xt9:FnT:=λc h args m=>match args with
 |[t0]=>xaq c h m.next t0 ⟨m.hp,m.next+1⟩ 0
 |_=>none
noncomputable def xta:FnT:=λc h args m=>match args with
 |[]=>xar c h m.next ⟨m.hp,m.next+1⟩ 0
 |_=>none
noncomputable def x9g:FnT:=λc h args m=>match args with
 |[t0,t1,t2]=>x86 c h m.next t0 t1 t2 ⟨m.hp,m.next+1⟩ 0
 |_=>none
noncomputable def xtb:FnT:=λc h args m=>match args with
 |[t0]=>xat c h m.next t0 ⟨m.hp,m.next+1⟩ 0
 |_=>none
noncomputable def x9h:FnT:=λc h args m=>match args with
 |[t0,t1,t2]=>x88 c h m.next t0 t1 t2 ⟨m.hp,m.next+1⟩ 0
 |_=>none
noncomputable def xtc:FnT:=λc h args m=>match args with
 |[t0,t1]=>xaw c h m.next t0 t1 ⟨m.hp,m.next+1⟩ 0
 |_=>none
noncomputable def xtd:FnT:=λc h args m=>match args with
 |[t0]=>xb0 c h m.next t0 ⟨m.hp,m.next+1⟩ 0
 |_=>none
noncomputable def xjh:FnT:=λc h args m=>match args with
 |[t0]=>xb1 c h m.next t0 ⟨m.hp,m.next+1⟩ 0
 |_=>none
noncomputable def xte:FnT:=λc h args m=>match args with
 |[t0,t1]=>xb2 c h m.next t0 t1 ⟨m.hp,m.next+1⟩ 0
 |_=>none
noncomputable def xtf:FnT:=λc h args m=>match args with
 |[t0,t1]=>xb3 c h m.next t0 t1 ⟨m.hp,m.next+1⟩ 0
 |_=>none
noncomputable def xtg:FnT:=λc h args m=>match args with
 |[t0,t1]=>xb4 c h m.next t0 t1 ⟨m.hp,m.next+1⟩ 0
 |_=>none
noncomputable def xth:FnT:=λc h args m=>match args with
 |[t0]=>xb5 c h m.next t0 ⟨m.hp,m.next+1⟩ 0
 |_=>none
noncomputable def xti:FnT:=λc h args m=>match args with
 |[t0,t1]=>xb6 c h m.next t0 t1 ⟨m.hp,m.next+1⟩ 0
 |_=>none
noncomputable def xtj:FnT:=λc h args m=>match args with
 |[t0,t1]=>xb7 c h m.next t0 t1 ⟨m.hp,m.next+1⟩ 0
 |_=>none
noncomputable def x9i:FnT:=λc h args m=>match args with
 |[t0,t1,t2]=>x8a c h m.next t0 t1 t2 ⟨m.hp,m.next+1⟩ 0
 |_=>none
noncomputable def x9j:FnT:=λc h args m=>match args with
 |[t0,t1]=>x8b c h m.next t0 t1 ⟨m.hp,m.next+1⟩ 0
 |_=>none
noncomputable def x9k:FnT:=λc h args m=>match args with
 |[t0]=>x8c c h m.next t0 ⟨m.hp,m.next+1⟩ 0
 |_=>none
noncomputable def x9l:FnT:=λc h args m=>match args with
 |[t0]=>x8d c h m.next t0 ⟨m.hp,m.next+1⟩ 0
 |_=>none
noncomputable def x9m:FnT:=λc h args m=>match args with
 |[t0]=>x8e c h m.next t0 ⟨m.hp,m.next+1⟩ 0
 |_=>none
noncomputable def x9n:FnT:=λc h args m=>match args with
 |[t0,t1]=>x8g c h m.next t0 t1 ⟨m.hp,m.next+1⟩ 0
 |_=>none
noncomputable def x9o:FnT:=λc h args m=>match args with
 |[t0]=>x8i c h m.next t0 ⟨m.hp,m.next+1⟩ 0
 |_=>none
noncomputable def xji:FnT:=λc h args m=>match args with
 |[t0,t1]=>xbd c h m.next t0 t1 ⟨m.hp,m.next+1⟩ 0
 |_=>none
noncomputable def x9p:FnT:=λc h args m=>match args with
 |[t0,t1]=>x8m c h m.next t0 t1 ⟨m.hp,m.next+1⟩ 0
 |_=>none
noncomputable def x9q:FnT:=λc h args m=>match args with
 |[t0]=>x40 c h m.next t0 ⟨m.hp,m.next+1⟩ 0
 |_=>none
noncomputable def x9r:FnT:=λc h args m=>match args with
 |[t0,t1]=>x8n c h m.next t0 t1 ⟨m.hp,m.next+1⟩ 0
 |_=>none
noncomputable def xtk:FnT:=λc h args m=>match args with
 |[t0,t1,t2]=>xbg c h m.next t0 t1 t2 ⟨m.hp,m.next+1⟩ 0
 |_=>none
noncomputable def xtl:FnT:=λc h args m=>match args with
 |[t0]=>xbh c h m.next t0 ⟨m.hp,m.next+1⟩ 0
 |_=>none
noncomputable def xtm:FnT:=λc h args m=>match args with
 |[t0,t1,t2]=>xbi c h m.next t0 t1 t2 ⟨m.hp,m.next+1⟩ 0
 |_=>none
noncomputable def xtn:FnT:=λc h args m=>match args with
 |[t0]=>xbk c h m.next t0 ⟨m.hp,m.next+1⟩ 0
 |_=>none
noncomputable def xto:FnT:=λc h args m=>match args with
 |[t0,t1]=>xbm c h m.next t0 t1 ⟨m.hp,m.next+1⟩ 0
 |_=>none
noncomputable def xtp:FnT:=λc h args m=>match args with
 |[t0,t1]=>xbo c h m.next t0 t1 ⟨m.hp,m.next+1⟩ 0
 |_=>none
noncomputable def xtq:FnT:=λc h args m=>match args with
 |[t0]=>xbq c h m.next t0 ⟨m.hp,m.next+1⟩ 0
 |_=>none
noncomputable def xtr:FnT:=λc h args m=>match args with
 |[t0]=>xbs c h m.next t0 ⟨m.hp,m.next+1⟩ 0
 |_=>none
noncomputable def x9s:FnT:=λc h args m=>match args with
 |[t0]=>x8q c h m.next t0 ⟨m.hp,m.next+1⟩ 0
 |_=>none
noncomputable def xts:FnT:=λc h args m=>match args with
 |[t0]=>xbv c h m.next t0 ⟨m.hp,m.next+1⟩ 0
 |_=>none
noncomputable def xtt:FnT:=λc h args m=>match args with
 |[t0]=>xbw c h m.next t0 ⟨m.hp,m.next+1⟩ 0
 |_=>none
noncomputable def xtu:FnT:=λc h args m=>match args with
 |[t0,t1]=>xby c h m.next t0 t1 ⟨m.hp,m.next+1⟩ 0
 |_=>none
noncomputable def xtv:FnT:=λc h args m=>match args with
 |[t0,t1]=>xbz c h m.next t0 t1 ⟨m.hp,m.next+1⟩ 0
 |_=>none
noncomputable def xtw:FnT:=λc h args m=>match args with
 |[t0,t1]=>xc0 c h m.next t0 t1 ⟨m.hp,m.next+1⟩ 0
 |_=>none
noncomputable def xtx:FnT:=λc h args m=>match args with
 |[t0,t1]=>xc2 c h m.next t0 t1 ⟨m.hp,m.next+1⟩ 0
 |_=>none
noncomputable def xty:FnT:=λc h args m=>match args with
 |[t0,t1]=>xc3 c h m.next t0 t1 ⟨m.hp,m.next+1⟩ 0
 |_=>none
noncomputable def xtz:FnT:=λc h args m=>match args with
 |[t0,t1,t2]=>xc5 c h m.next t0 t1 t2 ⟨m.hp,m.next+1⟩ 0
 |_=>none
noncomputable def xu0:FnT:=λc h args m=>match args with
 |[t0,t1]=>xc6 c h m.next t0 t1 ⟨m.hp,m.next+1⟩ 0
 |_=>none
noncomputable def xu1:FnT:=λc h args m=>match args with
 |[t0,t1]=>xc7 c h m.next t0 t1 ⟨m.hp,m.next+1⟩ 0
 |_=>none
noncomputable def xu2:FnT:=λc h args m=>match args with
 |[t0,t1]=>xc8 c h m.next t0 t1 ⟨m.hp,m.next+1⟩ 0
 |_=>none
noncomputable def xu3:FnT:=λc h args m=>match args with
 |[t0]=>xc9 c h m.next t0 ⟨m.hp,m.next+1⟩ 0
 |_=>none
noncomputable def xu4:FnT:=λc h args m=>match args with
 |[t0,t1]=>xcb c h m.next t0 t1 ⟨m.hp,m.next+1⟩ 0
 |_=>none
noncomputable def xu5:FnT:=λc h args m=>match args with
 |[t0,t1]=>xcc c h m.next t0 t1 ⟨m.hp,m.next+1⟩ 0
 |_=>none
noncomputable def xu6:FnT:=λc h args m=>match args with
 |[t0,t1]=>xce c h m.next t0 t1 ⟨m.hp,m.next+1⟩ 0
 |_=>none
noncomputable def xu7:FnT:=λc h args m=>match args with
 |[t0,t1]=>xcf c h m.next t0 t1 ⟨m.hp,m.next+1⟩ 0
 |_=>none
noncomputable def xu8:FnT:=λc h args m=>match args with
 |[t0,t1]=>xcg c h m.next t0 t1 ⟨m.hp,m.next+1⟩ 0
 |_=>none
noncomputable def xu9:FnT:=λc h args m=>match args with
 |[t0,t1]=>xci c h m.next t0 t1 ⟨m.hp,m.next+1⟩ 0
 |_=>none
noncomputable def xua:FnT:=λc h args m=>match args with
 |[t0,t1,t2]=>xck c h m.next t0 t1 t2 ⟨m.hp,m.next+1⟩ 0
 |_=>none
noncomputable def xub:FnT:=λc h args m=>match args with
 |[t0,t1]=>xcl c h m.next t0 t1 ⟨m.hp,m.next+1⟩ 0
 |_=>none
noncomputable def xuc:FnT:=λc h args m=>match args with
 |[t0,t1]=>xcm c h m.next t0 t1 ⟨m.hp,m.next+1⟩ 0
 |_=>none
noncomputable def xud:FnT:=λc h args m=>match args with
 |[t0,t1]=>xcn c h m.next t0 t1 ⟨m.hp,m.next+1⟩ 0
 |_=>none
noncomputable def xue:FnT:=λc h args m=>match args with
 |[t0]=>xcp c h m.next t0 ⟨m.hp,m.next+1⟩ 0
 |_=>none
noncomputable def xuf:FnT:=λc h args m=>match args with
 |[t0,t1]=>xcs c h m.next t0 t1 ⟨m.hp,m.next+1⟩ 0
 |_=>none
noncomputable def xug:FnT:=λc h args m=>match args with
 |[t0,t1]=>xcu c h m.next t0 t1 ⟨m.hp,m.next+1⟩ 0
 |_=>none
noncomputable def xuh:FnT:=λc h args m=>match args with
 |[t0,t1]=>xcv c h m.next t0 t1 ⟨m.hp,m.next+1⟩ 0
 |_=>none
noncomputable def xui:FnT:=λc h args m=>match args with
 |[t0,t1]=>xcx c h m.next t0 t1 ⟨m.hp,m.next+1⟩ 0
 |_=>none
noncomputable def xuj:FnT:=λc h args m=>match args with
 |[t0,t1]=>xd2 c h m.next t0 t1 ⟨m.hp,m.next+1⟩ 0
 |_=>none
noncomputable def xuk:FnT:=λc h args m=>match args with
 |[t0,t1]=>xd3 c h m.next t0 t1 ⟨m.hp,m.next+1⟩ 0
 |_=>none
noncomputable def xul:FnT:=λc h args m=>match args with
 |[t0,t1,t2]=>xd4 c h m.next t0 t1 t2 ⟨m.hp,m.next+1⟩ 0
 |_=>none
noncomputable def xum:FnT:=λc h args m=>match args with
 |[t0,t1]=>xd6 c h m.next t0 t1 ⟨m.hp,m.next+1⟩ 0
 |_=>none
noncomputable def xun:FnT:=λc h args m=>match args with
 |[t0,t1]=>xd7 c h m.next t0 t1 ⟨m.hp,m.next+1⟩ 0
 |_=>none
noncomputable def xuo:FnT:=λc h args m=>match args with
 |[t0]=>xd8 c h m.next t0 ⟨m.hp,m.next+1⟩ 0
 |_=>none
noncomputable def xup:FnT:=λc h args m=>match args with
 |[t0,t1]=>xd9 c h m.next t0 t1 ⟨m.hp,m.next+1⟩ 0
 |_=>none
noncomputable def xuq:FnT:=λc h args m=>match args with
 |[t0]=>xda c h m.next t0 ⟨m.hp,m.next+1⟩ 0
 |_=>none
noncomputable def xur:FnT:=λc h args m=>match args with
 |[t0,t1]=>xdd c h m.next t0 t1 ⟨m.hp,m.next+1⟩ 0
 |_=>none
noncomputable def xus:FnT:=λc h args m=>match args with
 |[t0,t1,t2]=>xde c h m.next t0 t1 t2 ⟨m.hp,m.next+1⟩ 0
 |_=>none
noncomputable def xut:FnT:=λc h args m=>match args with
 |[t0]=>xdf c h m.next t0 ⟨m.hp,m.next+1⟩ 0
 |_=>none
noncomputable def xuu:FnT:=λc h args m=>match args with
 |[t0,t1]=>xdg c h m.next t0 t1 ⟨m.hp,m.next+1⟩ 0
 |_=>none
noncomputable def xuv:FnT:=λc h args m=>match args with
 |[t0,t1,t2]=>xdh c h m.next t0 t1 t2 ⟨m.hp,m.next+1⟩ 0
 |_=>none
noncomputable def xuw:FnT:=λc h args m=>match args with
 |[t0,t1]=>xdi c h m.next t0 t1 ⟨m.hp,m.next+1⟩ 0
 |_=>none
noncomputable def xux:FnT:=λc h args m=>match args with
 |[t0]=>xdj c h m.next t0 ⟨m.hp,m.next+1⟩ 0
 |_=>none
noncomputable def xuy:FnT:=λc h args m=>match args with
 |[t0,t1,t2]=>xdk c h m.next t0 t1 t2 ⟨m.hp,m.next+1⟩ 0
 |_=>none
noncomputable def xuz:FnT:=λc h args m=>match args with
 |[t0,t1]=>xdm c h m.next t0 t1 ⟨m.hp,m.next+1⟩ 0
 |_=>none
noncomputable def xv0:FnT:=λc h args m=>match args with
 |[t0,t1]=>xdp c h m.next t0 t1 ⟨m.hp,m.next+1⟩ 0
 |_=>none
noncomputable def xv1:FnT:=λc h args m=>match args with
 |[t0,t1]=>xds c h m.next t0 t1 ⟨m.hp,m.next+1⟩ 0
 |_=>none
noncomputable def xv2:FnT:=λc h args m=>match args with
 |[t0,t1]=>xdt c h m.next t0 t1 ⟨m.hp,m.next+1⟩ 0
 |_=>none
noncomputable def xv3:FnT:=λc h args m=>match args with
 |[t0]=>xdu c h m.next t0 ⟨m.hp,m.next+1⟩ 0
 |_=>none
noncomputable def xv4:FnT:=λc h args m=>match args with
 |[t0,t1]=>xdw c h m.next t0 t1 ⟨m.hp,m.next+1⟩ 0
 |_=>none
noncomputable def xv5:FnT:=λc h args m=>match args with
 |[t0]=>xdx c h m.next t0 ⟨m.hp,m.next+1⟩ 0
 |_=>none
noncomputable def xv6:FnT:=λc h args m=>match args with
 |[t0]=>xdy c h m.next t0 ⟨m.hp,m.next+1⟩ 0
 |_=>none
noncomputable def xv7:FnT:=λc h args m=>match args with
 |[t0]=>xdz c h m.next t0 ⟨m.hp,m.next+1⟩ 0
 |_=>none
noncomputable def xv8:FnT:=λc h args m=>match args with
 |[t0]=>xe0 c h m.next t0 ⟨m.hp,m.next+1⟩ 0
 |_=>none
noncomputable def xv9:FnT:=λc h args m=>match args with
 |[t0]=>xe1 c h m.next t0 ⟨m.hp,m.next+1⟩ 0
 |_=>none
noncomputable def xva:FnT:=λc h args m=>match args with
 |[t0]=>xe2 c h m.next t0 ⟨m.hp,m.next+1⟩ 0
 |_=>none
noncomputable def xvb:FnT:=λc h args m=>match args with
 |[t0,t1]=>xe4 c h m.next t0 t1 ⟨m.hp,m.next+1⟩ 0
 |_=>none
noncomputable def xvc:FnT:=λc h args m=>match args with
 |[t0]=>xe5 c h m.next t0 ⟨m.hp,m.next+1⟩ 0
 |_=>none
noncomputable def xvd:FnT:=λc h args m=>match args with
 |[t0,t1]=>xe6 c h m.next t0 t1 ⟨m.hp,m.next+1⟩ 0
 |_=>none
noncomputable def xve:FnT:=λc h args m=>match args with
 |[t0,t1]=>xe7 c h m.next t0 t1 ⟨m.hp,m.next+1⟩ 0
 |_=>none
noncomputable def xvf:FnT:=λc h args m=>match args with
 |[t0,t1]=>xea c h m.next t0 t1 ⟨m.hp,m.next+1⟩ 0
 |_=>none
noncomputable def xvg:FnT:=λc h args m=>match args with
 |[t0]=>xeb c h m.next t0 ⟨m.hp,m.next+1⟩ 0
 |_=>none
noncomputable def xvh:FnT:=λc h args m=>match args with
 |[t0,t1]=>xec c h m.next t0 t1 ⟨m.hp,m.next+1⟩ 0
 |_=>none
noncomputable def xvi:FnT:=λc h args m=>match args with
 |[t0]=>xed c h m.next t0 ⟨m.hp,m.next+1⟩ 0
 |_=>none
noncomputable def xvj:FnT:=λc h args m=>match args with
 |[t0,t1]=>xee c h m.next t0 t1 ⟨m.hp,m.next+1⟩ 0
 |_=>none
noncomputable def xvk:FnT:=λc h args m=>match args with
 |[t0]=>xef c h m.next t0 ⟨m.hp,m.next+1⟩ 0
 |_=>none
noncomputable def xvl:FnT:=λc h args m=>match args with
 |[t0]=>xej c h m.next t0 ⟨m.hp,m.next+1⟩ 0
 |_=>none
noncomputable def xvm:FnT:=λc h args m=>match args with
 |[t0,t1,t2,t3,t4,t5,t6]=>xel c h m.next t0 t1 t2 t3 t4 t5 t6 ⟨m.hp,m.next+1⟩ 0
 |_=>none
noncomputable def xvn:FnT:=λc h args m=>match args with
 |[t0,t1,t2]=>xem c h m.next t0 t1 t2 ⟨m.hp,m.next+1⟩ 0
 |_=>none
noncomputable def xvo:FnT:=λc h args m=>match args with
 |[t0]=>xeo c h m.next t0 ⟨m.hp,m.next+1⟩ 0
 |_=>none
noncomputable def xvp:FnT:=λc h args m=>match args with
 |[t0,t1]=>xer c h m.next t0 t1 ⟨m.hp,m.next+1⟩ 0
 |_=>none
noncomputable def xvq:FnT:=λc h args m=>match args with
 |[t0,t1]=>xes c h m.next t0 t1 ⟨m.hp,m.next+1⟩ 0
 |_=>none
noncomputable def xvr:FnT:=λc h args m=>match args with
 |[t0,t1]=>xet c h m.next t0 t1 ⟨m.hp,m.next+1⟩ 0
 |_=>none
noncomputable def xvs:FnT:=λc h args m=>match args with
 |[t0,t1,t2,t3]=>xex c h m.next t0 t1 t2 t3 ⟨m.hp,m.next+1⟩ 0
 |_=>none
noncomputable def xvt:FnT:=λc h args m=>match args with
 |[t0,t1]=>xez c h m.next t0 t1 ⟨m.hp,m.next+1⟩ 0
 |_=>none
noncomputable def xvu:FnT:=λc h args m=>match args with
 |[t0,t1]=>xf0 c h m.next t0 t1 ⟨m.hp,m.next+1⟩ 0
 |_=>none
noncomputable def xvv:FnT:=λc h args m=>match args with
 |[t0]=>xf1 c h m.next t0 ⟨m.hp,m.next+1⟩ 0
 |_=>none
noncomputable def xvw:FnT:=λc h args m=>match args with
 |[t0,t1]=>xf4 c h m.next t0 t1 ⟨m.hp,m.next+1⟩ 0
 |_=>none
noncomputable def xvx:FnT:=λc h args m=>match args with
 |[t0]=>xf6 c h m.next t0 ⟨m.hp,m.next+1⟩ 0
 |_=>none
noncomputable def xt1:FnT:=λc h args m=>match args with
 |[t0,t1]=>xf8 c h m.next t0 t1 ⟨m.hp,m.next+1⟩ 0
 |_=>none
noncomputable def xvy:FnT:=λc h args m=>match args with
 |[t0,t1]=>xf9 c h m.next t0 t1 ⟨m.hp,m.next+1⟩ 0
 |_=>none
noncomputable def xvz:FnT:=λc h args m=>match args with
 |[t0,t1,t2]=>xfa c h m.next t0 t1 t2 ⟨m.hp,m.next+1⟩ 0
 |_=>none
noncomputable def xw0:FnT:=λc h args m=>match args with
 |[t0,t1]=>xfb c h m.next t0 t1 ⟨m.hp,m.next+1⟩ 0
 |_=>none
noncomputable def xw1:FnT:=λc h args m=>match args with
 |[t0]=>xfc c h m.next t0 ⟨m.hp,m.next+1⟩ 0
 |_=>none
noncomputable def xw2:FnT:=λc h args m=>match args with
 |[t0,t1,t2,t3]=>xff c h m.next t0 t1 t2 t3 ⟨m.hp,m.next+1⟩ 0
 |_=>none
noncomputable def xw3:FnT:=λc h args m=>match args with
 |[t0,t1]=>xfg c h m.next t0 t1 ⟨m.hp,m.next+1⟩ 0
 |_=>none
noncomputable def xw4:FnT:=λc h args m=>match args with
 |[t0]=>xfk c h m.next t0 ⟨m.hp,m.next+1⟩ 0
 |_=>none
noncomputable def xw5:FnT:=λc h args m=>match args with
 |[t0,t1,t2,t3,t4]=>xfl c h m.next t0 t1 t2 t3 t4 ⟨m.hp,m.next+1⟩ 0
 |_=>none
noncomputable def xw6:FnT:=λc h args m=>match args with
 |[t0]=>xfm c h m.next t0 ⟨m.hp,m.next+1⟩ 0
 |_=>none
noncomputable def xw7:FnT:=λc h args m=>match args with
 |[t0,t1]=>xfn c h m.next t0 t1 ⟨m.hp,m.next+1⟩ 0
 |_=>none
noncomputable def xw8:FnT:=λc h args m=>match args with
 |[t0,t1]=>xfr c h m.next t0 t1 ⟨m.hp,m.next+1⟩ 0
 |_=>none
noncomputable def xw9:FnT:=λc h args m=>match args with
 |[t0,t1]=>xft c h m.next t0 t1 ⟨m.hp,m.next+1⟩ 0
 |_=>none
noncomputable def xwa:FnT:=λc h args m=>match args with
 |[t0]=>xfx c h m.next t0 ⟨m.hp,m.next+1⟩ 0
 |_=>none
noncomputable def xwb:FnT:=λc h args m=>match args with
 |[t0]=>xfz c h m.next t0 ⟨m.hp,m.next+1⟩ 0
 |_=>none
noncomputable def xwc:FnT:=λc h args m=>match args with
 |[t0,t1,t2]=>xg4 c h m.next t0 t1 t2 ⟨m.hp,m.next+1⟩ 0
 |_=>none
noncomputable def xwd:FnT:=λc h args m=>match args with
 |[t0]=>xg5 c h m.next t0 ⟨m.hp,m.next+1⟩ 0
 |_=>none
noncomputable def xwe:FnT:=λc h args m=>match args with
 |[t0,t1,t2,t3]=>xga c h m.next t0 t1 t2 t3 ⟨m.hp,m.next+1⟩ 0
 |_=>none
noncomputable def xwf:FnT:=λc h args m=>match args with
 |[t0]=>xgb c h m.next t0 ⟨m.hp,m.next+1⟩ 0
 |_=>none
noncomputable def xwg:FnT:=λc h args m=>match args with
 |[t0,t1,t2]=>xge c h m.next t0 t1 t2 ⟨m.hp,m.next+1⟩ 0
 |_=>none
noncomputable def xwh:FnT:=λc h args m=>match args with
 |[t0,t1]=>xgf c h m.next t0 t1 ⟨m.hp,m.next+1⟩ 0
 |_=>none
noncomputable def xwi:FnT:=λc h args m=>match args with
 |[t0,t1]=>xgg c h m.next t0 t1 ⟨m.hp,m.next+1⟩ 0
 |_=>none
noncomputable def xwj:FnT:=λc h args m=>match args with
 |[t0,t1,t2]=>xgh c h m.next t0 t1 t2 ⟨m.hp,m.next+1⟩ 0
 |_=>none
noncomputable def xwk:FnT:=λc h args m=>match args with
 |[t0,t1,t2]=>xgi c h m.next t0 t1 t2 ⟨m.hp,m.next+1⟩ 0
 |_=>none
noncomputable def xwl:FnT:=λc h args m=>match args with
 |[t0,t1]=>xgk c h m.next t0 t1 ⟨m.hp,m.next+1⟩ 0
 |_=>none
noncomputable def xwm:FnT:=λc h args m=>match args with
 |[t0]=>xgl c h m.next t0 ⟨m.hp,m.next+1⟩ 0
 |_=>none
noncomputable def xwn:FnT:=λc h args m=>match args with
 |[t0]=>xgm c h m.next t0 ⟨m.hp,m.next+1⟩ 0
 |_=>none
noncomputable def xwo:FnT:=λc h args m=>match args with
 |[t0]=>xgq c h m.next t0 ⟨m.hp,m.next+1⟩ 0
 |_=>none
noncomputable def xwp:FnT:=λc h args m=>match args with
 |[t0,t1]=>xgr c h m.next t0 t1 ⟨m.hp,m.next+1⟩ 0
 |_=>none
noncomputable def xwq:FnT:=λc h args m=>match args with
 |[t0,t1]=>xgs c h m.next t0 t1 ⟨m.hp,m.next+1⟩ 0
 |_=>none
noncomputable def xwr:FnT:=λc h args m=>match args with
 |[t0,t1,t2,t3]=>xgv c h m.next t0 t1 t2 t3 ⟨m.hp,m.next+1⟩ 0
 |_=>none
noncomputable def xws:FnT:=λc h args m=>match args with
 |[t0,t1,t2,t3,t4]=>xh4 c h m.next t0 t1 t2 t3 t4 ⟨m.hp,m.next+1⟩ 0
 |_=>none
noncomputable def xwt:FnT:=λc h args m=>match args with
 |[t0,t1,t2]=>xh7 c h m.next t0 t1 t2 ⟨m.hp,m.next+1⟩ 0
 |_=>none
noncomputable def xwu:FnT:=λc h args m=>match args with
 |[t0,t1,t2]=>xha c h m.next t0 t1 t2 ⟨m.hp,m.next+1⟩ 0
 |_=>none
noncomputable def xwv:FnT:=λc h args m=>match args with
 |[t0,t1,t2]=>xhd c h m.next t0 t1 t2 ⟨m.hp,m.next+1⟩ 0
 |_=>none
noncomputable def xww:FnT:=λc h args m=>match args with
 |[t0,t1,t2]=>xhg c h m.next t0 t1 t2 ⟨m.hp,m.next+1⟩ 0
 |_=>none
noncomputable def xwx:FnT:=λc h args m=>match args with
 |[t0,t1,t2]=>xhi c h m.next t0 t1 t2 ⟨m.hp,m.next+1⟩ 0
 |_=>none
noncomputable def xwy:FnT:=λc h args m=>match args with
 |[t0,t1,t2]=>xhn c h m.next t0 t1 t2 ⟨m.hp,m.next+1⟩ 0
 |_=>none
noncomputable def xwz:FnT:=λc h args m=>match args with
 |[t0,t1]=>xho c h m.next t0 t1 ⟨m.hp,m.next+1⟩ 0
 |_=>none
noncomputable def xx0:FnT:=λc h args m=>match args with
 |[t0,t1,t2,t3]=>xhs c h m.next t0 t1 t2 t3 ⟨m.hp,m.next+1⟩ 0
 |_=>none
noncomputable def xx1:FnT:=λc h args m=>match args with
 |[t0,t1,t2,t3]=>xhy c h m.next t0 t1 t2 t3 ⟨m.hp,m.next+1⟩ 0
 |_=>none
noncomputable def xx2:FnT:=λc h args m=>match args with
 |[t0]=>xi1 c h m.next t0 ⟨m.hp,m.next+1⟩ 0
 |_=>none
noncomputable def xx3:FnT:=λc h args m=>match args with
 |[t0]=>xi5 c h m.next t0 ⟨m.hp,m.next+1⟩ 0
 |_=>none
noncomputable def xx4:FnT:=λc h args m=>match args with
 |[t0,t1,t2]=>xia c h m.next t0 t1 t2 ⟨m.hp,m.next+1⟩ 0
 |_=>none
noncomputable def xx5:FnT:=λc h args m=>match args with
 |[t0]=>xib c h m.next t0 ⟨m.hp,m.next+1⟩ 0
 |_=>none
noncomputable def xx6:FnT:=λc h args m=>match args with
 |[t0]=>xic c h m.next t0 ⟨m.hp,m.next+1⟩ 0
 |_=>none
noncomputable def xx7:FnT:=λc h args m=>match args with
 |[t0]=>xid c h m.next t0 ⟨m.hp,m.next+1⟩ 0
 |_=>none
noncomputable def xx8:FnT:=λc h args m=>match args with
 |[t0]=>xie c h m.next t0 ⟨m.hp,m.next+1⟩ 0
 |_=>none
noncomputable def xx9:FnT:=λc h args m=>match args with
 |[t0,t1]=>xii c h m.next t0 t1 ⟨m.hp,m.next+1⟩ 0
 |_=>none
noncomputable def xxa:FnT:=λc h args m=>match args with
 |[t0,t1,t2,t3,t4]=>xio c h m.next t0 t1 t2 t3 t4 ⟨m.hp,m.next+1⟩ 0
 |_=>none
noncomputable def xxb:FnT:=λc h args m=>match args with
 |[t0]=>xip c h m.next t0 ⟨m.hp,m.next+1⟩ 0
 |_=>none
noncomputable def xxc:FnT:=λc h args m=>match args with
 |[t0,t1]=>xir c h m.next t0 t1 ⟨m.hp,m.next+1⟩ 0
 |_=>none
noncomputable def xxd:FnT:=λc h args m=>match args with
 |[t0,t1,t2,t3,t4]=>xit c h m.next t0 t1 t2 t3 t4 ⟨m.hp,m.next+1⟩ 0
 |_=>none
noncomputable def xxe:FnT:=λc h args m=>match args with
 |[t0,t1,t2,t3]=>xiw c h m.next t0 t1 t2 t3 ⟨m.hp,m.next+1⟩ 0
 |_=>none
noncomputable def xxf:FnT:=λc h args m=>match args with
 |[t0]=>xix c h m.next t0 ⟨m.hp,m.next+1⟩ 0
 |_=>none
noncomputable def xxg:FnT:=λc h args m=>match args with
 |[t0]=>xiy c h m.next t0 ⟨m.hp,m.next+1⟩ 0
 |_=>none
noncomputable def xxh:FnT:=λc h args m=>match args with
 |[t0,t1,t2]=>xiz c h m.next t0 t1 t2 ⟨m.hp,m.next+1⟩ 0
 |_=>none
noncomputable def xxi:FnT:=λc h args m=>match args with
 |[t0,t1,t2,t3,t4]=>xj0 c h m.next t0 t1 t2 t3 t4 ⟨m.hp,m.next+1⟩ 0
 |_=>none
noncomputable def xxj:FnT:=λc h args m=>match args with
 |[t0]=>xj1 c h m.next t0 ⟨m.hp,m.next+1⟩ 0
 |_=>none
noncomputable def xxk:FnT:=λc h args m=>match args with
 |[t0]=>xj2 c h m.next t0 ⟨m.hp,m.next+1⟩ 0
 |_=>none
noncomputable def xxl:FnT:=λc h args m=>match args with
 |[t0]=>xj4 c h m.next t0 ⟨m.hp,m.next+1⟩ 0
 |_=>none
noncomputable def xxm:FnT:=λc h args m=>match args with
 |[t0]=>xj5 c h m.next t0 ⟨m.hp,m.next+1⟩ 0
 |_=>none
noncomputable def xxn:FnT:=λc h args m=>match args with
 |[t0]=>xj6 c h m.next t0 ⟨m.hp,m.next+1⟩ 0
 |_=>none
noncomputable def xxo:FnT:=λc h args m=>match args with
 |[t0]=>xj7 c h m.next t0 ⟨m.hp,m.next+1⟩ 0
 |_=>none
noncomputable def xxp:FnT:=λc h args m=>match args with
 |[t0]=>xj8 c h m.next t0 ⟨m.hp,m.next+1⟩ 0
 |_=>none
noncomputable def xxq:FnT:=λc h args m=>match args with
 |[t0,t1,t2,t3,t4]=>xja c h m.next t0 t1 t2 t3 ⟨m.hp,m.next+1⟩ 0
 |_=>none
noncomputable def xxr:FnT:=λc h args m=>match args with
 |[t0,t1,t2,t3]=>xjb c h m.next t0 t1 t2 t3 ⟨m.hp,m.next+1⟩ 0
 |_=>none
noncomputable def xxs:FnT:=λc h args m=>match args with
 |[t0]=>xjc c h m.next t0 ⟨m.hp,m.next+1⟩ 0
 |_=>none
noncomputable def xxt:FnT:=λc h args m=>match args with
 |[t0]=>xjd c h m.next t0 ⟨m.hp,m.next+1⟩ 0
 |_=>none
end Go.Ix
