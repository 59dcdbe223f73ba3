import Derived.Test.YtibmppgmjbpdmaaGreatDoorFxText0
import Derived.Test.YtibmppgmjbpdmaaGreatDoorFxText1
set_option linter.unusedVariables false
namespace Go.Ix
open Go.Proofs
noncomputable def x9m:FnT:=λc h args m=>match args with
 |[t0,t1]=>x7n c h m.next t0 t1 ⟨m.hp,m.next+1⟩ 0
 |_=>none
noncomputable def xu7:FnT:=λc h args m=>match args with
 |[]=>xaj c h m.next ⟨m.hp,m.next+1⟩ 0
 |_=>none
noncomputable def x9n:FnT:=λc h args m=>match args with
 |[t0]=>x7q c h m.next t0 ⟨m.hp,m.next+1⟩ 0
 |_=>none
noncomputable def x4e:FnT:=λc h args m=>match args with
 |[t0]=>x3y c h m.next t0 ⟨m.hp,m.next+1⟩ 0
 |_=>none
noncomputable def x9o:FnT:=λc h args m=>match args with
 |[t0]=>x7s c h m.next t0 ⟨m.hp,m.next+1⟩ 0
 |_=>none
noncomputable def x9p:FnT:=λc h args m=>match args with
 |[t0,t1]=>x7u c h m.next t0 t1 ⟨m.hp,m.next+1⟩ 0
 |_=>none
noncomputable def x9q:FnT:=λc h args m=>match args with
 |[t0]=>x7v c h m.next t0 ⟨m.hp,m.next+1⟩ 0
 |_=>none
noncomputable def x9r:FnT:=λc h args m=>match args with
 |[t0]=>x7w c h m.next t0 ⟨m.hp,m.next+1⟩ 0
 |_=>none
noncomputable def x9s:FnT:=λc h args m=>match args with
 |[t0]=>x7y c h m.next t0 ⟨m.hp,m.next+1⟩ 0
 |_=>none
noncomputable def x9t:FnT:=λc h args m=>match args with
 |[t0]=>x80 c h m.next t0 ⟨m.hp,m.next+1⟩ 0
 |_=>none
noncomputable def x9u:FnT:=λc h args m=>match args with
 |[t0]=>x82 c h m.next t0 ⟨m.hp,m.next+1⟩ 0
 |_=>none
noncomputable def x9v:FnT:=λc h args m=>match args with
 |[t0]=>x84 c h m.next t0 ⟨m.hp,m.next+1⟩ 0
 |_=>none
noncomputable def xu8:FnT:=λc h args m=>match args with
 |[t0,t1,t2]=>xb0 c h m.next t0 t1 t2 ⟨m.hp,m.next+1⟩ 0
 |_=>none
noncomputable def xu9:FnT:=λc h args m=>match args with
 |[]=>xb1 c h m.next ⟨m.hp,m.next+1⟩ 0
 |_=>none
noncomputable def xua:FnT:=λc h args m=>match args with
 |[]=>xb3 c h m.next ⟨m.hp,m.next+1⟩ 0
 |_=>none
noncomputable def xub:FnT:=λc h args m=>match args with
 |[t0,t1,t2]=>xb4 c h m.next t0 t1 t2 ⟨m.hp,m.next+1⟩ 0
 |_=>none
noncomputable def xuc:FnT:=λc h args m=>match args with
 |[t0,t1]=>xb5 c h m.next t0 t1 ⟨m.hp,m.next+1⟩ 0
 |_=>none
noncomputable def xud:FnT:=λc h args m=>match args with
 |[]=>xb7 c h m.next ⟨m.hp,m.next+1⟩ 0
 |_=>none
noncomputable def xue:FnT:=λc h args m=>match args with
 |[t0,t1]=>xb9 c h m.next t0 t1 ⟨m.hp,m.next+1⟩ 0
 |_=>none
noncomputable def xkg:FnT:=λc h args m=>match args with
 |[t0]=>xba c h m.next t0 ⟨m.hp,m.next+1⟩ 0
 |_=>none
noncomputable def x9w:FnT:=λc h args m=>match args with
 |[t0,t1]=>x86 c h m.next t0 t1 ⟨m.hp,m.next+1⟩ 0
 |_=>none
noncomputable def x9x:FnT:=λc h args m=>match args with
 |[t0,t1]=>x87 c h m.next t0 t1 ⟨m.hp,m.next+1⟩ 0
 |_=>none
noncomputable def x9y:FnT:=λc h args m=>match args with
 |[t0,t1]=>x89 c h m.next t0 t1 ⟨m.hp,m.next+1⟩ 0
 |_=>none
noncomputable def x9z:FnT:=λc h args m=>match args with
 |[t0]=>x8b c h m.next t0 ⟨m.hp,m.next+1⟩ 0
 |_=>none
noncomputable def xa0:FnT:=λc h args m=>match args with
 |[t0,t1]=>x8d c h m.next t0 t1 ⟨m.hp,m.next+1⟩ 0
 |_=>none
noncomputable def xa1:FnT:=λc h args m=>match args with
 |[t0,t1]=>x8h c h m.next t0 t1 ⟨m.hp,m.next+1⟩ 0
 |_=>none
noncomputable def xa2:FnT:=λc h args m=>match args with
 |[t0]=>x8j c h m.next t0 ⟨m.hp,m.next+1⟩ 0
 |_=>none
noncomputable def xa3:FnT:=λc h args m=>match args with
 |[t0,t1]=>x8l c h m.next t0 t1 ⟨m.hp,m.next+1⟩ 0
 |_=>none
noncomputable def xa4:FnT:=λc h args m=>match args with
 |[t0]=>x8n c h m.next t0 ⟨m.hp,m.next+1⟩ 0
 |_=>none
noncomputable def xa5:FnT:=λc h args m=>match args with
 |[t0]=>x8p c h m.next t0 ⟨m.hp,m.next+1⟩ 0
 |_=>none
noncomputable def xa6:FnT:=λc h args m=>match args with
 |[t0]=>x8s c h m.next t0 ⟨m.hp,m.next+1⟩ 0
 |_=>none
noncomputable def xuf:FnT:=λc h args m=>match args with
 |[t0,t1,t2]=>xbt c h m.next t0 t1 t2 ⟨m.hp,m.next+1⟩ 0
 |_=>none
noncomputable def xug:FnT:=λc h args m=>match args with
 |[t0]=>xbu c h m.next t0 ⟨m.hp,m.next+1⟩ 0
 |_=>none
noncomputable def xuh:FnT:=λc h args m=>match args with
 |[t0,t1,t2]=>xbv c h m.next t0 t1 t2 ⟨m.hp,m.next+1⟩ 0
 |_=>none
noncomputable def xui:FnT:=λc h args m=>match args with
 |[t0]=>xbx c h m.next t0 ⟨m.hp,m.next+1⟩ 0
 |_=>none
noncomputable def xuj:FnT:=λc h args m=>match args with
 |[t0,t1]=>xbz c h m.next t0 t1 ⟨m.hp,m.next+1⟩ 0
 |_=>none
noncomputable def xuk:FnT:=λc h args m=>match args with
 |[t0,t1]=>xc0 c h m.next t0 t1 ⟨m.hp,m.next+1⟩ 0
 |_=>none
noncomputable def xul:FnT:=λc h args m=>match args with
 |[t0,t1]=>xc2 c h m.next t0 t1 ⟨m.hp,m.next+1⟩ 0
 |_=>none
noncomputable def xum:FnT:=λc h args m=>match args with
 |[t0]=>xc3 c h m.next t0 ⟨m.hp,m.next+1⟩ 0
 |_=>none
noncomputable def xun:FnT:=λc h args m=>match args with
 |[t0,t1]=>xc5 c h m.next t0 t1 ⟨m.hp,m.next+1⟩ 0
 |_=>none
noncomputable def xa7:FnT:=λc h args m=>match args with
 |[t0,t1]=>x2v c h m.next NN t0 t1 ⟨m.hp,m.next+1⟩ 0
 |_=>none
noncomputable def xa8:FnT:=λc h args m=>match args with
 |[t0,t1]=>x8v c h m.next t0 t1 ⟨m.hp,m.next+1⟩ 0
 |_=>none
noncomputable def xa9:FnT:=λc h args m=>match args with
 |[t0,t1]=>x8w c h m.next t0 t1 ⟨m.hp,m.next+1⟩ 0
 |_=>none
noncomputable def xaa:FnT:=λc h args m=>match args with
 |[t0,t1]=>x8x c h m.next t0 t1 ⟨m.hp,m.next+1⟩ 0
 |_=>none
noncomputable def xuo:FnT:=λc h args m=>match args with
 |[t0]=>xc9 c h m.next t0 ⟨m.hp,m.next+1⟩ 0
 |_=>none
noncomputable def xac:FnT:=λc h args m=>match args with
 |[t0,t1]=>x8y c h m.next t0 t1 ⟨m.hp,m.next+1⟩ 0
 |_=>none
noncomputable def xad:FnT:=λc h args m=>match args with
 |[t0]=>x8z c h m.next t0 ⟨m.hp,m.next+1⟩ 0
 |_=>none
noncomputable def xup:FnT:=λc h args m=>match args with
 |[t0,t1]=>xca c h m.next t0 t1 ⟨m.hp,m.next+1⟩ 0
 |_=>none
noncomputable def xuq:FnT:=λc h args m=>match args with
 |[t0,t1]=>xcb c h m.next t0 t1 ⟨m.hp,m.next+1⟩ 0
 |_=>none
noncomputable def xur:FnT:=λc h args m=>match args with
 |[t0]=>xcc c h m.next t0 ⟨m.hp,m.next+1⟩ 0
 |_=>none
noncomputable def xus:FnT:=λc h args m=>match args with
 |[t0,t1]=>xce c h m.next t0 t1 ⟨m.hp,m.next+1⟩ 0
 |_=>none
noncomputable def xut:FnT:=λc h args m=>match args with
 |[t0,t1]=>xcf c h m.next t0 t1 ⟨m.hp,m.next+1⟩ 0
 |_=>none
noncomputable def xuu:FnT:=λc h args m=>match args with
 |[t0]=>xck c h m.next t0 ⟨m.hp,m.next+1⟩ 0
 |_=>none
noncomputable def xuv:FnT:=λc h args m=>match args with
 |[t0]=>xcl c h m.next t0 ⟨m.hp,m.next+1⟩ 0
 |_=>none
noncomputable def xuw:FnT:=λc h args m=>match args with
 |[t0,t1]=>xcn c h m.next t0 t1 ⟨m.hp,m.next+1⟩ 0
 |_=>none
noncomputable def xux:FnT:=λc h args m=>match args with
 |[t0,t1]=>xcp c h m.next t0 t1 ⟨m.hp,m.next+1⟩ 0
 |_=>none
noncomputable def xuy:FnT:=λc h args m=>match args with
 |[t0,t1]=>xcq c h m.next t0 t1 ⟨m.hp,m.next+1⟩ 0
 |_=>none
noncomputable def xuz:FnT:=λc h args m=>match args with
 |[t0,t1]=>xcr c h m.next t0 t1 ⟨m.hp,m.next+1⟩ 0
 |_=>none
noncomputable def xv0:FnT:=λc h args m=>match args with
 |[t0,t1]=>xcs c h m.next t0 t1 ⟨m.hp,m.next+1⟩ 0
 |_=>none
noncomputable def xv1:FnT:=λc h args m=>match args with
 |[t0]=>xcv c h m.next t0 ⟨m.hp,m.next+1⟩ 0
 |_=>none
noncomputable def xv2:FnT:=λc h args m=>match args with
 |[t0,t1,t2]=>xcw c h m.next t0 t1 t2 ⟨m.hp,m.next+1⟩ 0
 |_=>none
noncomputable def xv3:FnT:=λc h args m=>match args with
 |[t0,t1]=>xcy c h m.next t0 t1 ⟨m.hp,m.next+1⟩ 0
 |_=>none
noncomputable def xae:FnT:=λc h args m=>match args with
 |[t0,t1]=>x96 c h m.next t0 t1 ⟨m.hp,m.next+1⟩ 0
 |_=>none
noncomputable def xaf:FnT:=λc h args m=>match args with
 |[t0,t1]=>x97 c h m.next t0 t1 ⟨m.hp,m.next+1⟩ 0
 |_=>none
noncomputable def x51:FnT:=λc h args m=>match args with
 |[t0,t1]=>x48 c h m.next t0 t1 ⟨m.hp,m.next+1⟩ 0
 |_=>none
noncomputable def xv4:FnT:=λc h args m=>match args with
 |[t0,t1]=>xd2 c h m.next t0 t1 ⟨m.hp,m.next+1⟩ 0
 |_=>none
noncomputable def xag:FnT:=λc h args m=>match args with
 |[t0,t1]=>x98 c h m.next t0 t1 ⟨m.hp,m.next+1⟩ 0
 |_=>none
noncomputable def xv5:FnT:=λc h args m=>match args with
 |[t0,t1]=>xd4 c h m.next t0 t1 ⟨m.hp,m.next+1⟩ 0
 |_=>none
noncomputable def xv6:FnT:=λc h args m=>match args with
 |[t0,t1]=>xd5 c h m.next t0 t1 ⟨m.hp,m.next+1⟩ 0
 |_=>none
noncomputable def xv7:FnT:=λc h args m=>match args with
 |[t0,t1]=>xd7 c h m.next t0 t1 ⟨m.hp,m.next+1⟩ 0
 |_=>none
noncomputable def xv8:FnT:=λc h args m=>match args with
 |[t0,t1]=>xdc c h m.next t0 t1 ⟨m.hp,m.next+1⟩ 0
 |_=>none
noncomputable def xv9:FnT:=λc h args m=>match args with
 |[t0,t1]=>xdd c h m.next t0 t1 ⟨m.hp,m.next+1⟩ 0
 |_=>none
noncomputable def xva:FnT:=λc h args m=>match args with
 |[t0,t1,t2]=>xde c h m.next t0 t1 t2 ⟨m.hp,m.next+1⟩ 0
 |_=>none
noncomputable def xvb:FnT:=λc h args m=>match args with
 |[t0]=>xdg c h m.next t0 ⟨m.hp,m.next+1⟩ 0
 |_=>none
noncomputable def xvc:FnT:=λc h args m=>match args with
 |[t0,t1,t2]=>xdi c h m.next t0 t1 t2 ⟨m.hp,m.next+1⟩ 0
 |_=>none
noncomputable def xvd:FnT:=λc h args m=>match args with
 |[t0,t1]=>xdj c h m.next t0 t1 ⟨m.hp,m.next+1⟩ 0
 |_=>none
noncomputable def xve:FnT:=λc h args m=>match args with
 |[t0]=>xdn c h m.next t0 ⟨m.hp,m.next+1⟩ 0
 |_=>none
noncomputable def xvf:FnT:=λc h args m=>match args with
 |[t0]=>xdo c h m.next t0 ⟨m.hp,m.next+1⟩ 0
 |_=>none
noncomputable def xvg:FnT:=λc h args m=>match args with
 |[t0,t1]=>xdp c h m.next t0 t1 ⟨m.hp,m.next+1⟩ 0
 |_=>none
noncomputable def xvh:FnT:=λc h args m=>match args with
 |[t0,t1]=>xdq c h m.next t0 t1 ⟨m.hp,m.next+1⟩ 0
 |_=>none
noncomputable def xvi:FnT:=λc h args m=>match args with
 |[t0,t1]=>xdr c h m.next t0 t1 ⟨m.hp,m.next+1⟩ 0
 |_=>none
noncomputable def xvj:FnT:=λc h args m=>match args with
 |[t0,t1]=>xdt c h m.next t0 t1 ⟨m.hp,m.next+1⟩ 0
 |_=>none
noncomputable def xvk:FnT:=λc h args m=>match args with
 |[t0,t1]=>xdu c h m.next t0 t1 ⟨m.hp,m.next+1⟩ 0
 |_=>none
noncomputable def xvl:FnT:=λc h args m=>match args with
 |[t0]=>xdv c h m.next t0 ⟨m.hp,m.next+1⟩ 0
 |_=>none
noncomputable def xvm:FnT:=λc h args m=>match args with
 |[t0]=>xdw c h m.next t0 ⟨m.hp,m.next+1⟩ 0
 |_=>none
noncomputable def xvn:FnT:=λc h args m=>match args with
 |[t0,t1]=>xdz c h m.next t0 t1 ⟨m.hp,m.next+1⟩ 0
 |_=>none
noncomputable def xvo:FnT:=λc h args m=>match args with
 |[t0,t1,t2]=>xe0 c h m.next t0 t1 t2 ⟨m.hp,m.next+1⟩ 0
 |_=>none
noncomputable def xvp:FnT:=λc h args m=>match args with
 |[t0]=>xe1 c h m.next t0 ⟨m.hp,m.next+1⟩ 0
 |_=>none
noncomputable def xvq:FnT:=λc h args m=>match args with
 |[t0,t1,t2]=>xe3 c h m.next t0 t1 t2 ⟨m.hp,m.next+1⟩ 0
 |_=>none
noncomputable def xvr:FnT:=λc h args m=>match args with
 |[t0,t1]=>xe4 c h m.next t0 t1 ⟨m.hp,m.next+1⟩ 0
 |_=>none
noncomputable def xvs:FnT:=λc h args m=>match args with
 |[t0,t1]=>xe5 c h m.next t0 t1 ⟨m.hp,m.next+1⟩ 0
 |_=>none
noncomputable def xvt:FnT:=λc h args m=>match args with
 |[t0]=>xe6 c h m.next t0 ⟨m.hp,m.next+1⟩ 0
 |_=>none
noncomputable def xvu:FnT:=λc h args m=>match args with
 |[t0]=>xe7 c h m.next t0 ⟨m.hp,m.next+1⟩ 0
 |_=>none
noncomputable def xvv:FnT:=λc h args m=>match args with
 |[t0]=>xe8 c h m.next t0 ⟨m.hp,m.next+1⟩ 0
 |_=>none
noncomputable def xvw:FnT:=λc h args m=>match args with
 |[t0,t1]=>xeb c h m.next t0 t1 ⟨m.hp,m.next+1⟩ 0
 |_=>none
noncomputable def xvx:FnT:=λc h args m=>match args with
 |[t0]=>xec c h m.next t0 ⟨m.hp,m.next+1⟩ 0
 |_=>none
noncomputable def xvy:FnT:=λc h args m=>match args with
 |[t0]=>xed c h m.next t0 ⟨m.hp,m.next+1⟩ 0
 |_=>none
noncomputable def xvz:FnT:=λc h args m=>match args with
 |[t0,t1]=>xeh c h m.next t0 t1 ⟨m.hp,m.next+1⟩ 0
 |_=>none
noncomputable def xw0:FnT:=λc h args m=>match args with
 |[t0,t1,t2,t3,t4]=>xen c h m.next t0 t1 t2 t3 t4 ⟨m.hp,m.next+1⟩ 0
 |_=>none
noncomputable def xw1:FnT:=λc h args m=>match args with
 |[t0]=>xeo c h m.next t0 ⟨m.hp,m.next+1⟩ 0
 |_=>none
noncomputable def xw2:FnT:=λc h args m=>match args with
 |[t0,t1,t2]=>xep c h m.next t0 t1 t2 ⟨m.hp,m.next+1⟩ 0
 |_=>none
noncomputable def xw3:FnT:=λc h args m=>match args with
 |[t0,t1]=>xer c h m.next t0 t1 ⟨m.hp,m.next+1⟩ 0
 |_=>none
noncomputable def xw4:FnT:=λc h args m=>match args with
 |[t0,t1]=>xeu c h m.next t0 t1 ⟨m.hp,m.next+1⟩ 0
 |_=>none
noncomputable def xw5:FnT:=λc h args m=>match args with
 |[t0,t1]=>xex c h m.next t0 t1 ⟨m.hp,m.next+1⟩ 0
 |_=>none
noncomputable def xw6:FnT:=λc h args m=>match args with
 |[t0]=>xey c h m.next t0 ⟨m.hp,m.next+1⟩ 0
 |_=>none
noncomputable def xw7:FnT:=λc h args m=>match args with
 |[t0]=>xez c h m.next t0 ⟨m.hp,m.next+1⟩ 0
 |_=>none
noncomputable def xw8:FnT:=λc h args m=>match args with
 |[t0,t1]=>xf1 c h m.next t0 t1 ⟨m.hp,m.next+1⟩ 0
 |_=>none
noncomputable def xw9:FnT:=λc h args m=>match args with
 |[t0,t1]=>xf2 c h m.next t0 t1 ⟨m.hp,m.next+1⟩ 0
 |_=>none
noncomputable def xwa:FnT:=λc h args m=>match args with
 |[t0,t1]=>xf3 c h m.next t0 t1 ⟨m.hp,m.next+1⟩ 0
 |_=>none
noncomputable def xwb:FnT:=λc h args m=>match args with
 |[t0]=>xf4 c h m.next t0 ⟨m.hp,m.next+1⟩ 0
 |_=>none
noncomputable def xwc:FnT:=λc h args m=>match args with
 |[t0,t1]=>xf6 c h m.next t0 t1 ⟨m.hp,m.next+1⟩ 0
 |_=>none
noncomputable def xwd:FnT:=λc h args m=>match args with
 |[t0]=>xf7 c h m.next t0 ⟨m.hp,m.next+1⟩ 0
 |_=>none
noncomputable def xwe:FnT:=λc h args m=>match args with
 |[t0]=>xf8 c h m.next t0 ⟨m.hp,m.next+1⟩ 0
 |_=>none
noncomputable def xwf:FnT:=λc h args m=>match args with
 |[t0]=>xf9 c h m.next t0 ⟨m.hp,m.next+1⟩ 0
 |_=>none
noncomputable def xwg:FnT:=λc h args m=>match args with
 |[t0]=>xfa c h m.next t0 ⟨m.hp,m.next+1⟩ 0
 |_=>none
noncomputable def xwh:FnT:=λc h args m=>match args with
 |[t0]=>xfb c h m.next t0 ⟨m.hp,m.next+1⟩ 0
 |_=>none
noncomputable def xwi:FnT:=λc h args m=>match args with
 |[t0]=>xfc c h m.next t0 ⟨m.hp,m.next+1⟩ 0
 |_=>none
noncomputable def xwj:FnT:=λc h args m=>match args with
 |[t0,t1]=>xfe c h m.next t0 t1 ⟨m.hp,m.next+1⟩ 0
 |_=>none
noncomputable def xwk:FnT:=λc h args m=>match args with
 |[t0]=>xff c h m.next t0 ⟨m.hp,m.next+1⟩ 0
 |_=>none
noncomputable def xwl:FnT:=λc h args m=>match args with
 |[t0,t1]=>xfg c h m.next t0 t1 ⟨m.hp,m.next+1⟩ 0
 |_=>none
noncomputable def xwm:FnT:=λc h args m=>match args with
 |[t0,t1]=>xfh c h m.next t0 t1 ⟨m.hp,m.next+1⟩ 0
 |_=>none
noncomputable def xwn:FnT:=λc h args m=>match args with
 |[t0]=>xfj c h m.next t0 ⟨m.hp,m.next+1⟩ 0
 |_=>none
noncomputable def xwo:FnT:=λc h args m=>match args with
 |[t0,t1]=>xfm c h m.next t0 t1 ⟨m.hp,m.next+1⟩ 0
 |_=>none
noncomputable def xwp:FnT:=λc h args m=>match args with
 |[t0]=>xfq c h m.next t0 ⟨m.hp,m.next+1⟩ 0
 |_=>none
noncomputable def xwq:FnT:=λc h args m=>match args with
 |[t0]=>xfr c h m.next t0 ⟨m.hp,m.next+1⟩ 0
 |_=>none
noncomputable def xwr:FnT:=λc h args m=>match args with
 |[t0]=>xfv c h m.next t0 ⟨m.hp,m.next+1⟩ 0
 |_=>none
noncomputable def xws:FnT:=λc h args m=>match args with
 |[t0]=>xfw c h m.next t0 ⟨m.hp,m.next+1⟩ 0
 |_=>none
noncomputable def xwt:FnT:=λc h args m=>match args with
 |[t0]=>xfx c h m.next t0 ⟨m.hp,m.next+1⟩ 0
 |_=>none
noncomputable def xwu:FnT:=λc h args m=>match args with
 |[t0]=>xfy c h m.next t0 ⟨m.hp,m.next+1⟩ 0
 |_=>none
noncomputable def xwv:FnT:=λc h args m=>match args with
 |[t0]=>xfz c h m.next t0 ⟨m.hp,m.next+1⟩ 0
 |_=>none
noncomputable def xww:FnT:=λc h args m=>match args with
 |[t0,t1]=>xg0 c h m.next t0 t1 ⟨m.hp,m.next+1⟩ 0
 |_=>none
noncomputable def xwx:FnT:=λc h args m=>match args with
 |[t0]=>xg1 c h m.next t0 ⟨m.hp,m.next+1⟩ 0
 |_=>none
noncomputable def xwy:FnT:=λc h args m=>match args with
 |[t0,t1]=>xg2 c h m.next t0 t1 ⟨m.hp,m.next+1⟩ 0
 |_=>none
noncomputable def xwz:FnT:=λc h args m=>match args with
 |[t0]=>xg3 c h m.next t0 ⟨m.hp,m.next+1⟩ 0
 |_=>none
noncomputable def xx0:FnT:=λc h args m=>match args with
 |[t0]=>xg7 c h m.next t0 ⟨m.hp,m.next+1⟩ 0
 |_=>none
noncomputable def xx1:FnT:=λc h args m=>match args with
 |[t0,t1,t2,t3,t4,t5,t6]=>xg9 c h m.next t0 t1 t2 t3 t4 t5 t6 ⟨m.hp,m.next+1⟩ 0
 |_=>none
noncomputable def xx2:FnT:=λc h args m=>match args with
 |[t0,t1,t2]=>xga c h m.next t0 t1 t2 ⟨m.hp,m.next+1⟩ 0
 |_=>none
noncomputable def xx3:FnT:=λc h args m=>match args with
 |[t0]=>xgc c h m.next t0 ⟨m.hp,m.next+1⟩ 0
 |_=>none
noncomputable def xx4:FnT:=λc h args m=>match args with
 |[t0,t1]=>xgf c h m.next t0 t1 ⟨m.hp,m.next+1⟩ 0
 |_=>none
noncomputable def xx5:FnT:=λc h args m=>match args with
 |[t0,t1,t2]=>xgh c h m.next t0 t1 t2 ⟨m.hp,m.next+1⟩ 0
 |_=>none
noncomputable def xx6:FnT:=λc h args m=>match args with
 |[t0,t1]=>xgi c h m.next t0 t1 ⟨m.hp,m.next+1⟩ 0
 |_=>none
noncomputable def xx7:FnT:=λc h args m=>match args with
 |[t0,t1]=>xgj c h m.next t0 t1 ⟨m.hp,m.next+1⟩ 0
 |_=>none
noncomputable def xx8:FnT:=λc h args m=>match args with
 |[t0,t1]=>xgk c h m.next t0 t1 ⟨m.hp,m.next+1⟩ 0
 |_=>none
noncomputable def xx9:FnT:=λc h args m=>match args with
 |[t0,t1]=>xgl c h m.next t0 t1 ⟨m.hp,m.next+1⟩ 0
 |_=>none
noncomputable def xxa:FnT:=λc h args m=>match args with
 |[t0,t1]=>xgm c h m.next t0 t1 ⟨m.hp,m.next+1⟩ 0
 |_=>none
noncomputable def xxb:FnT:=λc h args m=>match args with
 |[t0,t1,t2,t3]=>xgq c h m.next t0 t1 t2 t3 ⟨m.hp,m.next+1⟩ 0
 |_=>none
noncomputable def xxc:FnT:=λc h args m=>match args with
 |[t0,t1]=>xgs c h m.next t0 t1 ⟨m.hp,m.next+1⟩ 0
 |_=>none
noncomputable def xxd:FnT:=λc h args m=>match args with
 |[t0]=>xgt c h m.next t0 ⟨m.hp,m.next+1⟩ 0
 |_=>none
noncomputable def xxe:FnT:=λc h args m=>match args with
 |[t0]=>xgu c h m.next t0 ⟨m.hp,m.next+1⟩ 0
 |_=>none
noncomputable def xxf:FnT:=λc h args m=>match args with
 |[t0]=>xgw c h m.next t0 ⟨m.hp,m.next+1⟩ 0
 |_=>none
noncomputable def xu6:FnT:=λc h args m=>match args with
 |[t0,t1]=>xgy c h m.next t0 t1 ⟨m.hp,m.next+1⟩ 0
 |_=>none
noncomputable def xxg:FnT:=λc h args m=>match args with
 |[t0,t1]=>xgz c h m.next t0 t1 ⟨m.hp,m.next+1⟩ 0
 |_=>none
noncomputable def xxh:FnT:=λc h args m=>match args with
 |[t0,t1,t2]=>xh0 c h m.next t0 t1 t2 ⟨m.hp,m.next+1⟩ 0
 |_=>none
noncomputable def xxi:FnT:=λc h args m=>match args with
 |[t0,t1]=>xh1 c h m.next t0 t1 ⟨m.hp,m.next+1⟩ 0
 |_=>none
noncomputable def xxj:FnT:=λc h args m=>match args with
 |[t0]=>xh2 c h m.next t0 ⟨m.hp,m.next+1⟩ 0
 |_=>none
noncomputable def xxk:FnT:=λc h args m=>match args with
 |[t0,t1,t2,t3]=>xh5 c h m.next t0 t1 t2 t3 ⟨m.hp,m.next+1⟩ 0
 |_=>none
noncomputable def xxl:FnT:=λc h args m=>match args with
 |[t0,t1]=>xh6 c h m.next t0 t1 ⟨m.hp,m.next+1⟩ 0
 |_=>none
noncomputable def xxm:FnT:=λc h args m=>match args with
 |[t0,t1,t2]=>xh7 c h m.next t0 t1 t2 ⟨m.hp,m.next+1⟩ 0
 |_=>none
noncomputable def xxn:FnT:=λc h args m=>match args with
 |[t0,t1]=>xh8 c h m.next t0 t1 ⟨m.hp,m.next+1⟩ 0
 |_=>none
noncomputable def xxo:FnT:=λc h args m=>match args with
 |[t0]=>xhc c h m.next t0 ⟨m.hp,m.next+1⟩ 0
 |_=>none
noncomputable def xxp:FnT:=λc h args m=>match args with
 |[t0,t1,t2,t3,t4]=>xhd c h m.next t0 t1 t2 t3 t4 ⟨m.hp,m.next+1⟩ 0
 |_=>none
noncomputable def xxq:FnT:=λc h args m=>match args with
 |[t0,t1]=>xhe c h m.next t0 t1 ⟨m.hp,m.next+1⟩ 0
 |_=>none
noncomputable def xxr:FnT:=λc h args m=>match args with
 |[t0,t1]=>xhi c h m.next t0 t1 ⟨m.hp,m.next+1⟩ 0
 |_=>none
noncomputable def xxs:FnT:=λc h args m=>match args with
 |[t0,t1]=>xhk c h m.next t0 t1 ⟨m.hp,m.next+1⟩ 0
 |_=>none
noncomputable def xxt:FnT:=λc h args m=>match args with
 |[t0]=>xhm c h m.next t0 ⟨m.hp,m.next+1⟩ 0
 |_=>none
noncomputable def xxu:FnT:=λc h args m=>match args with
 |[t0,t1,t2]=>xhr c h m.next t0 t1 t2 ⟨m.hp,m.next+1⟩ 0
 |_=>none
noncomputable def xxv:FnT:=λc h args m=>match args with
 |[t0]=>xhs c h m.next t0 ⟨m.hp,m.next+1⟩ 0
 |_=>none
noncomputable def xxw:FnT:=λc h args m=>match args with
 |[t0,t1,t2,t3]=>xhx c h m.next t0 t1 t2 t3 ⟨m.hp,m.next+1⟩ 0
 |_=>none
noncomputable def xxx:FnT:=λc h args m=>match args with
 |[t0]=>xhy c h m.next t0 ⟨m.hp,m.next+1⟩ 0
 |_=>none
noncomputable def xxy:FnT:=λc h args m=>match args with
 |[t0,t1,t2]=>xi1 c h m.next t0 t1 t2 ⟨m.hp,m.next+1⟩ 0
 |_=>none
noncomputable def xxz:FnT:=λc h args m=>match args with
 |[t0,t1]=>xi2 c h m.next t0 t1 ⟨m.hp,m.next+1⟩ 0
 |_=>none
noncomputable def xy0:FnT:=λc h args m=>match args with
 |[t0,t1]=>xi3 c h m.next t0 t1 ⟨m.hp,m.next+1⟩ 0
 |_=>none
noncomputable def xy1:FnT:=λc h args m=>match args with
 |[t0,t1,t2]=>xi4 c h m.next t0 t1 t2 ⟨m.hp,m.next+1⟩ 0
 |_=>none
noncomputable def xy2:FnT:=λc h args m=>match args with
 |[t0,t1,t2]=>xi5 c h m.next t0 t1 t2 ⟨m.hp,m.next+1⟩ 0
 |_=>none
noncomputable def xy3:FnT:=λc h args m=>match args with
 |[t0]=>xi6 c h m.next t0 ⟨m.hp,m.next+1⟩ 0
 |_=>none
noncomputable def xy4:FnT:=λc h args m=>match args with
 |[t0]=>xi7 c h m.next t0 ⟨m.hp,m.next+1⟩ 0
 |_=>none
noncomputable def xy5:FnT:=λc h args m=>match args with
 |[t0]=>xib c h m.next t0 ⟨m.hp,m.next+1⟩ 0
 |_=>none
noncomputable def xy6:FnT:=λc h args m=>match args with
 |[t0,t1]=>xic c h m.next t0 t1 ⟨m.hp,m.next+1⟩ 0
 |_=>none
noncomputable def xy7:FnT:=λc h args m=>match args with
 |[t0,t1]=>xid c h m.next t0 t1 ⟨m.hp,m.next+1⟩ 0
 |_=>none
noncomputable def xy8:FnT:=λc h args m=>match args with
 |[t0,t1,t2,t3]=>xig c h m.next t0 t1 t2 t3 ⟨m.hp,m.next+1⟩ 0
 |_=>none
noncomputable def xy9:FnT:=λc h args m=>match args with
 |[t0,t1,t2,t3,t4]=>xip c h m.next t0 t1 t2 t3 t4 ⟨m.hp,m.next+1⟩ 0
 |_=>none
noncomputable def xya:FnT:=λc h args m=>match args with
 |[t0,t1,t2]=>xis c h m.next t0 t1 t2 ⟨m.hp,m.next+1⟩ 0
 |_=>none
noncomputable def xyb:FnT:=λc h args m=>match args with
 |[t0,t1,t2]=>xiv c h m.next t0 t1 t2 ⟨m.hp,m.next+1⟩ 0
 |_=>none
noncomputable def xyc:FnT:=λc h args m=>match args with
 |[t0,t1,t2]=>xiy c h m.next t0 t1 t2 ⟨m.hp,m.next+1⟩ 0
 |_=>none
noncomputable def xyd:FnT:=λc h args m=>match args with
 |[t0,t1,t2]=>xj1 c h m.next t0 t1 t2 ⟨m.hp,m.next+1⟩ 0
 |_=>none
noncomputable def xye:FnT:=λc h args m=>match args with
 |[t0,t1,t2]=>xj3 c h m.next t0 t1 t2 ⟨m.hp,m.next+1⟩ 0
 |_=>none
noncomputable def xyf:FnT:=λc h args m=>match args with
 |[t0,t1,t2]=>xj8 c h m.next t0 t1 t2 ⟨m.hp,m.next+1⟩ 0
 |_=>none
noncomputable def xyg:FnT:=λc h args m=>match args with
 |[t0,t1]=>xj9 c h m.next t0 t1 ⟨m.hp,m.next+1⟩ 0
 |_=>none
noncomputable def xyh:FnT:=λc h args m=>match args with
 |[t0,t1,t2,t3]=>xjd c h m.next t0 t1 t2 t3 ⟨m.hp,m.next+1⟩ 0
 |_=>none
noncomputable def xyi:FnT:=λc h args m=>match args with
 |[t0,t1,t2,t3]=>xjj c h m.next t0 t1 t2 t3 ⟨m.hp,m.next+1⟩ 0
 |_=>none
noncomputable def xyj:FnT:=λc h args m=>match args with
 |[t0]=>xjm c h m.next t0 ⟨m.hp,m.next+1⟩ 0
 |_=>none
noncomputable def xyk:FnT:=λc h args m=>match args with
 |[t0,t1,t2]=>xjr c h m.next t0 t1 t2 ⟨m.hp,m.next+1⟩ 0
 |_=>none
noncomputable def xyl:FnT:=λc h args m=>match args with
 |[t0]=>xjs c h m.next t0 ⟨m.hp,m.next+1⟩ 0
 |_=>none
noncomputable def xym:FnT:=λc h args m=>match args with
 |[t0]=>xjt c h m.next t0 ⟨m.hp,m.next+1⟩ 0
 |_=>none
noncomputable def xyn:FnT:=λc h args m=>match args with
 |[t0]=>xju c h m.next t0 ⟨m.hp,m.next+1⟩ 0
 |_=>none
noncomputable def xyo:FnT:=λc h args m=>match args with
 |[t0,t1]=>xjw c h m.next t0 t1 ⟨m.hp,m.next+1⟩ 0
 |_=>none
noncomputable def xyp:FnT:=λc h args m=>match args with
 |[t0,t1,t2,t3,t4]=>xjy c h m.next t0 t1 t2 t3 t4 ⟨m.hp,m.next+1⟩ 0
 |_=>none
noncomputable def xyq:FnT:=λc h args m=>match args with
 |[t0,t1,t2,t3]=>xk1 c h m.next t0 t1 t2 t3 ⟨m.hp,m.next+1⟩ 0
 |_=>none
noncomputable def xyr:FnT:=λc h args m=>match args with
 |[t0]=>xk2 c h m.next t0 ⟨m.hp,m.next+1⟩ 0
 |_=>none
noncomputable def xys:FnT:=λc h args m=>match args with
 |[t0]=>xk3 c h m.next t0 ⟨m.hp,m.next+1⟩ 0
 |_=>none
noncomputable def xyt:FnT:=λc h args m=>match args with
 |[t0,t1,t2]=>xk4 c h m.next t0 t1 t2 ⟨m.hp,m.next+1⟩ 0
 |_=>none
noncomputable def xyu:FnT:=λc h args m=>match args with
 |[t0,t1,t2,t3,t4]=>xk5 c h m.next t0 t1 t2 t3 t4 ⟨m.hp,m.next+1⟩ 0
 |_=>none
noncomputable def xyv:FnT:=λc h args m=>match args with
 |[t0]=>xk6 c h m.next t0 ⟨m.hp,m.next+1⟩ 0
 |_=>none
noncomputable def xyw:FnT:=λc h args m=>match args with
 |[t0]=>xk7 c h m.next t0 ⟨m.hp,m.next+1⟩ 0
 |_=>none
noncomputable def xyx:FnT:=λc h args m=>match args with
 |[t0]=>xk9 c h m.next t0 ⟨m.hp,m.next+1⟩ 0
 |_=>none
noncomputable def xyy:FnT:=λc h args m=>match args with
 |[t0,t1,t2,t3,t4]=>xkb c h m.next t0 t1 t2 t3 ⟨m.hp,m.next+1⟩ 0
 |_=>none
noncomputable def xyz:FnT:=λc h args m=>match args with
 |[t0,t1,t2,t3]=>xkc c h m.next t0 t1 t2 t3 ⟨m.hp,m.next+1⟩ 0
 |_=>none
end Go.Ix
