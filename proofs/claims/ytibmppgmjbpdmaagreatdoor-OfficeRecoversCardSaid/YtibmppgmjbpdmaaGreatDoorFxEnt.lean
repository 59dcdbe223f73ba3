import Derived.Test.YtibmppgmjbpdmaaGreatDoorFxText0
import Derived.Test.YtibmppgmjbpdmaaGreatDoorFxText1
set_option linter.unusedVariables false
namespace Go.Ix
open Go.Proofs
noncomputable def x8g:FnT:=λc h args m=>match args with
 |[t0,t1,t2]=>x73 c h m.next t0 t1 t2 ⟨m.hp,m.next+1⟩ 0
 |_=>none
noncomputable def xsh:FnT:=λc h args m=>match args with
 |[]=>x96 c h m.next ⟨m.hp,m.next+1⟩ 0
 |_=>none
noncomputable def x8h:FnT:=λc h args m=>match args with
 |[t0]=>x76 c h m.next t0 ⟨m.hp,m.next+1⟩ 0
 |_=>none
noncomputable def x8i:FnT:=λc h args m=>match args with
 |[t0]=>x77 c h m.next t0 ⟨m.hp,m.next+1⟩ 0
 |_=>none
noncomputable def x8j:FnT:=λc h args m=>match args with
 |[t0,t1]=>x79 c h m.next t0 t1 ⟨m.hp,m.next+1⟩ 0
 |_=>none
noncomputable def xsi:FnT:=λc h args m=>match args with
 |[t0]=>x9e c h m.next t0 ⟨m.hp,m.next+1⟩ 0
 |_=>none
noncomputable def x8k:FnT:=λc h args m=>match args with
 |[t0]=>x7a c h m.next t0 ⟨m.hp,m.next+1⟩ 0
 |_=>none
noncomputable def x8l:FnT:=λc h args m=>match args with
 |[t0]=>x7c c h m.next t0 ⟨m.hp,m.next+1⟩ 0
 |_=>none
noncomputable def x8m:FnT:=λc h args m=>match args with
 |[t0,t1]=>x7d c h m.next t0 t1 ⟨m.hp,m.next+1⟩ 0
 |_=>none
noncomputable def x8n:FnT:=λc h args m=>match args with
 |[t0,t1,t2]=>x7e c h m.next t0 t1 t2 ⟨m.hp,m.next+1⟩ 0
 |_=>none
noncomputable def xsj:FnT:=λc h args m=>match args with
 |[t0,t1,t2]=>x9i c h m.next t0 t1 t2 ⟨m.hp,m.next+1⟩ 0
 |_=>none
noncomputable def xsk:FnT:=λc h args m=>match args with
 |[]=>x9j c h m.next ⟨m.hp,m.next+1⟩ 0
 |_=>none
noncomputable def xsl:FnT:=λc h args m=>match args with
 |[]=>x9l c h m.next ⟨m.hp,m.next+1⟩ 0
 |_=>none
noncomputable def xsm:FnT:=λc h args m=>match args with
 |[t0,t1,t2]=>x9m c h m.next t0 t1 t2 ⟨m.hp,m.next+1⟩ 0
 |_=>none
noncomputable def xsn:FnT:=λc h args m=>match args with
 |[t0,t1]=>x9n c h m.next t0 t1 ⟨m.hp,m.next+1⟩ 0
 |_=>none
noncomputable def xso:FnT:=λc h args m=>match args with
 |[]=>x9p c h m.next ⟨m.hp,m.next+1⟩ 0
 |_=>none
noncomputable def xsp:FnT:=λc h args m=>match args with
 |[t0,t1]=>x9r c h m.next t0 t1 ⟨m.hp,m.next+1⟩ 0
 |_=>none
noncomputable def xio:FnT:=λc h args m=>match args with
 |[t0]=>x9s c h m.next t0 ⟨m.hp,m.next+1⟩ 0
 |_=>none
noncomputable def x8o:FnT:=λc h args m=>match args with
 |[t0,t1]=>x7g c h m.next t0 t1 ⟨m.hp,m.next+1⟩ 0
 |_=>none
noncomputable def x8p:FnT:=λc h args m=>match args with
 |[t0,t1]=>x7h c h m.next t0 t1 ⟨m.hp,m.next+1⟩ 0
 |_=>none
noncomputable def x8q:FnT:=λc h args m=>match args with
 |[t0,t1]=>x7j c h m.next t0 t1 ⟨m.hp,m.next+1⟩ 0
 |_=>none
noncomputable def x8r:FnT:=λc h args m=>match args with
 |[t0]=>x7l c h m.next t0 ⟨m.hp,m.next+1⟩ 0
 |_=>none
noncomputable def x8s:FnT:=λc h args m=>match args with
 |[t0]=>x7n c h m.next t0 ⟨m.hp,m.next+1⟩ 0
 |_=>none
noncomputable def xsq:FnT:=λc h args m=>match args with
 |[t0]=>xa0 c h m.next t0 ⟨m.hp,m.next+1⟩ 0
 |_=>none
noncomputable def xsr:FnT:=λc h args m=>match args with
 |[t0,t1,t2]=>xa1 c h m.next t0 t1 t2 ⟨m.hp,m.next+1⟩ 0
 |_=>none
noncomputable def xss:FnT:=λc h args m=>match args with
 |[t0]=>xa2 c h m.next t0 ⟨m.hp,m.next+1⟩ 0
 |_=>none
noncomputable def xst:FnT:=λc h args m=>match args with
 |[t0,t1,t2]=>xa3 c h m.next t0 t1 t2 ⟨m.hp,m.next+1⟩ 0
 |_=>none
noncomputable def xsu:FnT:=λc h args m=>match args with
 |[t0]=>xa5 c h m.next t0 ⟨m.hp,m.next+1⟩ 0
 |_=>none
noncomputable def xsv:FnT:=λc h args m=>match args with
 |[t0,t1]=>xa7 c h m.next t0 t1 ⟨m.hp,m.next+1⟩ 0
 |_=>none
noncomputable def xsw:FnT:=λc h args m=>match args with
 |[t0,t1]=>xa8 c h m.next t0 t1 ⟨m.hp,m.next+1⟩ 0
 |_=>none
noncomputable def xsx:FnT:=λc h args m=>match args with
 |[t0,t1]=>xaa c h m.next t0 t1 ⟨m.hp,m.next+1⟩ 0
 |_=>none
noncomputable def xsy:FnT:=λc h args m=>match args with
 |[t0]=>xab c h m.next t0 ⟨m.hp,m.next+1⟩ 0
 |_=>none
noncomputable def xsz:FnT:=λc h args m=>match args with
 |[t0,t1]=>xad c h m.next t0 t1 ⟨m.hp,m.next+1⟩ 0
 |_=>none
noncomputable def x8t:FnT:=λc h args m=>match args with
 |[t0,t1]=>x2b c h m.next NN t0 t1 ⟨m.hp,m.next+1⟩ 0
 |_=>none
noncomputable def x8u:FnT:=λc h args m=>match args with
 |[t0,t1]=>x7q c h m.next t0 t1 ⟨m.hp,m.next+1⟩ 0
 |_=>none
noncomputable def x8v:FnT:=λc h args m=>match args with
 |[t0,t1]=>x7r c h m.next t0 t1 ⟨m.hp,m.next+1⟩ 0
 |_=>none
noncomputable def x8w:FnT:=λc h args m=>match args with
 |[t0,t1]=>x7s c h m.next t0 t1 ⟨m.hp,m.next+1⟩ 0
 |_=>none
noncomputable def xt0:FnT:=λc h args m=>match args with
 |[t0]=>xah c h m.next t0 ⟨m.hp,m.next+1⟩ 0
 |_=>none
noncomputable def x8y:FnT:=λc h args m=>match args with
 |[t0,t1]=>x7t c h m.next t0 t1 ⟨m.hp,m.next+1⟩ 0
 |_=>none
noncomputable def xt1:FnT:=λc h args m=>match args with
 |[t0,t1]=>xai c h m.next t0 t1 ⟨m.hp,m.next+1⟩ 0
 |_=>none
noncomputable def xt2:FnT:=λc h args m=>match args with
 |[t0,t1]=>xaj c h m.next t0 t1 ⟨m.hp,m.next+1⟩ 0
 |_=>none
noncomputable def xt3:FnT:=λc h args m=>match args with
 |[t0]=>xak c h m.next t0 ⟨m.hp,m.next+1⟩ 0
 |_=>none
noncomputable def xt4:FnT:=λc h args m=>match args with
 |[t0,t1]=>xam c h m.next t0 t1 ⟨m.hp,m.next+1⟩ 0
 |_=>none
noncomputable def xt5:FnT:=λc h args m=>match args with
 |[t0,t1]=>xan c h m.next t0 t1 ⟨m.hp,m.next+1⟩ 0
 |_=>none
noncomputable def xt6:FnT:=λc h args m=>match args with
 |[t0]=>xas c h m.next t0 ⟨m.hp,m.next+1⟩ 0
 |_=>none
noncomputable def xt7:FnT:=λc h args m=>match args with
 |[t0]=>xat c h m.next t0 ⟨m.hp,m.next+1⟩ 0
 |_=>none
noncomputable def xt8:FnT:=λc h args m=>match args with
 |[t0,t1]=>xav c h m.next t0 t1 ⟨m.hp,m.next+1⟩ 0
 |_=>none
noncomputable def xt9:FnT:=λc h args m=>match args with
 |[t0,t1]=>xax c h m.next t0 t1 ⟨m.hp,m.next+1⟩ 0
 |_=>none
noncomputable def xta:FnT:=λc h args m=>match args with
 |[t0,t1]=>xay c h m.next t0 t1 ⟨m.hp,m.next+1⟩ 0
 |_=>none
noncomputable def xtb:FnT:=λc h args m=>match args with
 |[t0,t1]=>xaz c h m.next t0 t1 ⟨m.hp,m.next+1⟩ 0
 |_=>none
noncomputable def xtc:FnT:=λc h args m=>match args with
 |[t0,t1]=>xb0 c h m.next t0 t1 ⟨m.hp,m.next+1⟩ 0
 |_=>none
noncomputable def xtd:FnT:=λc h args m=>match args with
 |[t0]=>xb3 c h m.next t0 ⟨m.hp,m.next+1⟩ 0
 |_=>none
noncomputable def xte:FnT:=λc h args m=>match args with
 |[t0,t1,t2]=>xb4 c h m.next t0 t1 t2 ⟨m.hp,m.next+1⟩ 0
 |_=>none
noncomputable def xtf:FnT:=λc h args m=>match args with
 |[t0,t1]=>xb6 c h m.next t0 t1 ⟨m.hp,m.next+1⟩ 0
 |_=>none
noncomputable def x8z:FnT:=λc h args m=>match args with
 |[t0,t1]=>x80 c h m.next t0 t1 ⟨m.hp,m.next+1⟩ 0
 |_=>none
noncomputable def x90:FnT:=λc h args m=>match args with
 |[t0,t1]=>x81 c h m.next t0 t1 ⟨m.hp,m.next+1⟩ 0
 |_=>none
noncomputable def x4f:FnT:=λc h args m=>match args with
 |[t0,t1]=>x3l c h m.next t0 t1 ⟨m.hp,m.next+1⟩ 0
 |_=>none
noncomputable def xtg:FnT:=λc h args m=>match args with
 |[t0,t1]=>xba c h m.next t0 t1 ⟨m.hp,m.next+1⟩ 0
 |_=>none
noncomputable def x91:FnT:=λc h args m=>match args with
 |[t0,t1]=>x82 c h m.next t0 t1 ⟨m.hp,m.next+1⟩ 0
 |_=>none
noncomputable def xth:FnT:=λc h args m=>match args with
 |[t0,t1]=>xbc c h m.next t0 t1 ⟨m.hp,m.next+1⟩ 0
 |_=>none
noncomputable def xti:FnT:=λc h args m=>match args with
 |[t0,t1]=>xbd c h m.next t0 t1 ⟨m.hp,m.next+1⟩ 0
 |_=>none
noncomputable def xtj:FnT:=λc h args m=>match args with
 |[t0,t1]=>xbf c h m.next t0 t1 ⟨m.hp,m.next+1⟩ 0
 |_=>none
noncomputable def xtk:FnT:=λc h args m=>match args with
 |[t0,t1]=>xbk c h m.next t0 t1 ⟨m.hp,m.next+1⟩ 0
 |_=>none
noncomputable def xtl:FnT:=λc h args m=>match args with
 |[t0,t1]=>xbl c h m.next t0 t1 ⟨m.hp,m.next+1⟩ 0
 |_=>none
noncomputable def xtm:FnT:=λc h args m=>match args with
 |[t0,t1,t2]=>xbm c h m.next t0 t1 t2 ⟨m.hp,m.next+1⟩ 0
 |_=>none
noncomputable def xtn:FnT:=λc h args m=>match args with
 |[t0]=>xbo c h m.next t0 ⟨m.hp,m.next+1⟩ 0
 |_=>none
noncomputable def xto:FnT:=λc h args m=>match args with
 |[t0,t1,t2]=>xbq c h m.next t0 t1 t2 ⟨m.hp,m.next+1⟩ 0
 |_=>none
noncomputable def xtp:FnT:=λc h args m=>match args with
 |[t0,t1]=>xbr c h m.next t0 t1 ⟨m.hp,m.next+1⟩ 0
 |_=>none
noncomputable def xtq:FnT:=λc h args m=>match args with
 |[t0]=>xbv c h m.next t0 ⟨m.hp,m.next+1⟩ 0
 |_=>none
noncomputable def xtr:FnT:=λc h args m=>match args with
 |[t0]=>xbw c h m.next t0 ⟨m.hp,m.next+1⟩ 0
 |_=>none
noncomputable def xts:FnT:=λc h args m=>match args with
 |[t0,t1]=>xbx c h m.next t0 t1 ⟨m.hp,m.next+1⟩ 0
 |_=>none
noncomputable def xtt:FnT:=λc h args m=>match args with
 |[t0,t1]=>xby c h m.next t0 t1 ⟨m.hp,m.next+1⟩ 0
 |_=>none
noncomputable def xtu:FnT:=λc h args m=>match args with
 |[t0,t1]=>xbz c h m.next t0 t1 ⟨m.hp,m.next+1⟩ 0
 |_=>none
noncomputable def xtv:FnT:=λc h args m=>match args with
 |[t0,t1]=>xc1 c h m.next t0 t1 ⟨m.hp,m.next+1⟩ 0
 |_=>none
noncomputable def xtw:FnT:=λc h args m=>match args with
 |[t0,t1]=>xc2 c h m.next t0 t1 ⟨m.hp,m.next+1⟩ 0
 |_=>none
noncomputable def xtx:FnT:=λc h args m=>match args with
 |[t0]=>xc3 c h m.next t0 ⟨m.hp,m.next+1⟩ 0
 |_=>none
noncomputable def xty:FnT:=λc h args m=>match args with
 |[t0]=>xc4 c h m.next t0 ⟨m.hp,m.next+1⟩ 0
 |_=>none
noncomputable def xtz:FnT:=λc h args m=>match args with
 |[t0,t1]=>xc7 c h m.next t0 t1 ⟨m.hp,m.next+1⟩ 0
 |_=>none
noncomputable def xu0:FnT:=λc h args m=>match args with
 |[t0,t1,t2]=>xc8 c h m.next t0 t1 t2 ⟨m.hp,m.next+1⟩ 0
 |_=>none
noncomputable def xu1:FnT:=λc h args m=>match args with
 |[t0]=>xc9 c h m.next t0 ⟨m.hp,m.next+1⟩ 0
 |_=>none
noncomputable def xu2:FnT:=λc h args m=>match args with
 |[t0,t1,t2]=>xcb c h m.next t0 t1 t2 ⟨m.hp,m.next+1⟩ 0
 |_=>none
noncomputable def xu3:FnT:=λc h args m=>match args with
 |[t0,t1]=>xcc c h m.next t0 t1 ⟨m.hp,m.next+1⟩ 0
 |_=>none
noncomputable def xu4:FnT:=λc h args m=>match args with
 |[t0,t1]=>xcd c h m.next t0 t1 ⟨m.hp,m.next+1⟩ 0
 |_=>none
noncomputable def xu5:FnT:=λc h args m=>match args with
 |[t0]=>xce c h m.next t0 ⟨m.hp,m.next+1⟩ 0
 |_=>none
noncomputable def xu6:FnT:=λc h args m=>match args with
 |[t0]=>xcf c h m.next t0 ⟨m.hp,m.next+1⟩ 0
 |_=>none
noncomputable def xu7:FnT:=λc h args m=>match args with
 |[t0]=>xcg c h m.next t0 ⟨m.hp,m.next+1⟩ 0
 |_=>none
noncomputable def xu8:FnT:=λc h args m=>match args with
 |[t0,t1]=>xcj c h m.next t0 t1 ⟨m.hp,m.next+1⟩ 0
 |_=>none
noncomputable def xu9:FnT:=λc h args m=>match args with
 |[t0]=>xck c h m.next t0 ⟨m.hp,m.next+1⟩ 0
 |_=>none
noncomputable def xua:FnT:=λc h args m=>match args with
 |[t0]=>xcl c h m.next t0 ⟨m.hp,m.next+1⟩ 0
 |_=>none
noncomputable def xub:FnT:=λc h args m=>match args with
 |[t0,t1]=>xcp c h m.next t0 t1 ⟨m.hp,m.next+1⟩ 0
 |_=>none
noncomputable def xuc:FnT:=λc h args m=>match args with
 |[t0,t1,t2,t3,t4]=>xcv c h m.next t0 t1 t2 t3 t4 ⟨m.hp,m.next+1⟩ 0
 |_=>none
noncomputable def xud:FnT:=λc h args m=>match args with
 |[t0]=>xcw c h m.next t0 ⟨m.hp,m.next+1⟩ 0
 |_=>none
noncomputable def xue:FnT:=λc h args m=>match args with
 |[t0,t1,t2]=>xcx c h m.next t0 t1 t2 ⟨m.hp,m.next+1⟩ 0
 |_=>none
noncomputable def xuf:FnT:=λc h args m=>match args with
 |[t0,t1]=>xcz c h m.next t0 t1 ⟨m.hp,m.next+1⟩ 0
 |_=>none
noncomputable def xug:FnT:=λc h args m=>match args with
 |[t0,t1]=>xd2 c h m.next t0 t1 ⟨m.hp,m.next+1⟩ 0
 |_=>none
noncomputable def xuh:FnT:=λc h args m=>match args with
 |[t0,t1]=>xd5 c h m.next t0 t1 ⟨m.hp,m.next+1⟩ 0
 |_=>none
noncomputable def xui:FnT:=λc h args m=>match args with
 |[t0]=>xd6 c h m.next t0 ⟨m.hp,m.next+1⟩ 0
 |_=>none
noncomputable def xuj:FnT:=λc h args m=>match args with
 |[t0]=>xd7 c h m.next t0 ⟨m.hp,m.next+1⟩ 0
 |_=>none
noncomputable def xuk:FnT:=λc h args m=>match args with
 |[t0,t1]=>xd9 c h m.next t0 t1 ⟨m.hp,m.next+1⟩ 0
 |_=>none
noncomputable def xul:FnT:=λc h args m=>match args with
 |[t0,t1]=>xda c h m.next t0 t1 ⟨m.hp,m.next+1⟩ 0
 |_=>none
noncomputable def xum:FnT:=λc h args m=>match args with
 |[t0,t1]=>xdb c h m.next t0 t1 ⟨m.hp,m.next+1⟩ 0
 |_=>none
noncomputable def xun:FnT:=λc h args m=>match args with
 |[t0]=>xdc c h m.next t0 ⟨m.hp,m.next+1⟩ 0
 |_=>none
noncomputable def xuo:FnT:=λc h args m=>match args with
 |[t0,t1]=>xde c h m.next t0 t1 ⟨m.hp,m.next+1⟩ 0
 |_=>none
noncomputable def xup:FnT:=λc h args m=>match args with
 |[t0]=>xdf c h m.next t0 ⟨m.hp,m.next+1⟩ 0
 |_=>none
noncomputable def xuq:FnT:=λc h args m=>match args with
 |[t0]=>xdg c h m.next t0 ⟨m.hp,m.next+1⟩ 0
 |_=>none
noncomputable def xur:FnT:=λc h args m=>match args with
 |[t0]=>xdh c h m.next t0 ⟨m.hp,m.next+1⟩ 0
 |_=>none
noncomputable def xus:FnT:=λc h args m=>match args with
 |[t0]=>xdi c h m.next t0 ⟨m.hp,m.next+1⟩ 0
 |_=>none
noncomputable def xut:FnT:=λc h args m=>match args with
 |[t0]=>xdj c h m.next t0 ⟨m.hp,m.next+1⟩ 0
 |_=>none
noncomputable def xuu:FnT:=λc h args m=>match args with
 |[t0]=>xdk c h m.next t0 ⟨m.hp,m.next+1⟩ 0
 |_=>none
noncomputable def xuv:FnT:=λc h args m=>match args with
 |[t0,t1]=>xdm c h m.next t0 t1 ⟨m.hp,m.next+1⟩ 0
 |_=>none
noncomputable def xuw:FnT:=λc h args m=>match args with
 |[t0]=>xdn c h m.next t0 ⟨m.hp,m.next+1⟩ 0
 |_=>none
noncomputable def xux:FnT:=λc h args m=>match args with
 |[t0,t1]=>xdo c h m.next t0 t1 ⟨m.hp,m.next+1⟩ 0
 |_=>none
noncomputable def xuy:FnT:=λc h args m=>match args with
 |[t0,t1]=>xdp c h m.next t0 t1 ⟨m.hp,m.next+1⟩ 0
 |_=>none
noncomputable def xuz:FnT:=λc h args m=>match args with
 |[t0]=>xdr c h m.next t0 ⟨m.hp,m.next+1⟩ 0
 |_=>none
noncomputable def xv0:FnT:=λc h args m=>match args with
 |[t0,t1]=>xdu c h m.next t0 t1 ⟨m.hp,m.next+1⟩ 0
 |_=>none
noncomputable def xv1:FnT:=λc h args m=>match args with
 |[t0]=>xdy c h m.next t0 ⟨m.hp,m.next+1⟩ 0
 |_=>none
noncomputable def xv2:FnT:=λc h args m=>match args with
 |[t0]=>xdz c h m.next t0 ⟨m.hp,m.next+1⟩ 0
 |_=>none
noncomputable def xv3:FnT:=λc h args m=>match args with
 |[t0]=>xe3 c h m.next t0 ⟨m.hp,m.next+1⟩ 0
 |_=>none
noncomputable def xv4:FnT:=λc h args m=>match args with
 |[t0]=>xe4 c h m.next t0 ⟨m.hp,m.next+1⟩ 0
 |_=>none
noncomputable def xv5:FnT:=λc h args m=>match args with
 |[t0]=>xe5 c h m.next t0 ⟨m.hp,m.next+1⟩ 0
 |_=>none
noncomputable def xv6:FnT:=λc h args m=>match args with
 |[t0]=>xe6 c h m.next t0 ⟨m.hp,m.next+1⟩ 0
 |_=>none
noncomputable def xv7:FnT:=λc h args m=>match args with
 |[t0]=>xe7 c h m.next t0 ⟨m.hp,m.next+1⟩ 0
 |_=>none
noncomputable def xv8:FnT:=λc h args m=>match args with
 |[t0,t1]=>xe8 c h m.next t0 t1 ⟨m.hp,m.next+1⟩ 0
 |_=>none
noncomputable def xv9:FnT:=λc h args m=>match args with
 |[t0]=>xe9 c h m.next t0 ⟨m.hp,m.next+1⟩ 0
 |_=>none
noncomputable def xva:FnT:=λc h args m=>match args with
 |[t0,t1]=>xea c h m.next t0 t1 ⟨m.hp,m.next+1⟩ 0
 |_=>none
noncomputable def xvb:FnT:=λc h args m=>match args with
 |[t0]=>xeb c h m.next t0 ⟨m.hp,m.next+1⟩ 0
 |_=>none
noncomputable def xvc:FnT:=λc h args m=>match args with
 |[t0]=>xef c h m.next t0 ⟨m.hp,m.next+1⟩ 0
 |_=>none
noncomputable def xvd:FnT:=λc h args m=>match args with
 |[t0,t1,t2,t3,t4,t5,t6]=>xeh c h m.next t0 t1 t2 t3 t4 t5 t6 ⟨m.hp,m.next+1⟩ 0
 |_=>none
noncomputable def xve:FnT:=λc h args m=>match args with
 |[t0,t1,t2]=>xei c h m.next t0 t1 t2 ⟨m.hp,m.next+1⟩ 0
 |_=>none
noncomputable def xvf:FnT:=λc h args m=>match args with
 |[t0]=>xek c h m.next t0 ⟨m.hp,m.next+1⟩ 0
 |_=>none
noncomputable def xvg:FnT:=λc h args m=>match args with
 |[t0,t1]=>xen c h m.next t0 t1 ⟨m.hp,m.next+1⟩ 0
 |_=>none
noncomputable def xvh:FnT:=λc h args m=>match args with
 |[t0,t1,t2]=>xep c h m.next t0 t1 t2 ⟨m.hp,m.next+1⟩ 0
 |_=>none
noncomputable def xvi:FnT:=λc h args m=>match args with
 |[t0,t1]=>xeq c h m.next t0 t1 ⟨m.hp,m.next+1⟩ 0
 |_=>none
noncomputable def xvj:FnT:=λc h args m=>match args with
 |[t0,t1]=>xer c h m.next t0 t1 ⟨m.hp,m.next+1⟩ 0
 |_=>none
noncomputable def xvk:FnT:=λc h args m=>match args with
 |[t0,t1]=>xes c h m.next t0 t1 ⟨m.hp,m.next+1⟩ 0
 |_=>none
noncomputable def xvl:FnT:=λc h args m=>match args with
 |[t0,t1]=>xet c h m.next t0 t1 ⟨m.hp,m.next+1⟩ 0
 |_=>none
noncomputable def xvm:FnT:=λc h args m=>match args with
 |[t0,t1]=>xeu c h m.next t0 t1 ⟨m.hp,m.next+1⟩ 0
 |_=>none
noncomputable def xvn:FnT:=λc h args m=>match args with
 |[t0,t1,t2,t3]=>xey c h m.next t0 t1 t2 t3 ⟨m.hp,m.next+1⟩ 0
 |_=>none
noncomputable def xvo:FnT:=λc h args m=>match args with
 |[t0,t1]=>xf0 c h m.next t0 t1 ⟨m.hp,m.next+1⟩ 0
 |_=>none
noncomputable def xvp:FnT:=λc h args m=>match args with
 |[t0]=>xf1 c h m.next t0 ⟨m.hp,m.next+1⟩ 0
 |_=>none
noncomputable def xvq:FnT:=λc h args m=>match args with
 |[t0]=>xf2 c h m.next t0 ⟨m.hp,m.next+1⟩ 0
 |_=>none
noncomputable def xvr:FnT:=λc h args m=>match args with
 |[t0]=>xf4 c h m.next t0 ⟨m.hp,m.next+1⟩ 0
 |_=>none
noncomputable def xsg:FnT:=λc h args m=>match args with
 |[t0,t1]=>xf6 c h m.next t0 t1 ⟨m.hp,m.next+1⟩ 0
 |_=>none
noncomputable def xvs:FnT:=λc h args m=>match args with
 |[t0,t1]=>xf7 c h m.next t0 t1 ⟨m.hp,m.next+1⟩ 0
 |_=>none
noncomputable def xvt:FnT:=λc h args m=>match args with
 |[t0,t1,t2]=>xf8 c h m.next t0 t1 t2 ⟨m.hp,m.next+1⟩ 0
 |_=>none
noncomputable def xvu:FnT:=λc h args m=>match args with
 |[t0,t1]=>xf9 c h m.next t0 t1 ⟨m.hp,m.next+1⟩ 0
 |_=>none
noncomputable def xvv:FnT:=λc h args m=>match args with
 |[t0]=>xfa c h m.next t0 ⟨m.hp,m.next+1⟩ 0
 |_=>none
noncomputable def xvw:FnT:=λc h args m=>match args with
 |[t0,t1,t2,t3]=>xfd c h m.next t0 t1 t2 t3 ⟨m.hp,m.next+1⟩ 0
 |_=>none
noncomputable def xvx:FnT:=λc h args m=>match args with
 |[t0,t1]=>xfe c h m.next t0 t1 ⟨m.hp,m.next+1⟩ 0
 |_=>none
noncomputable def xvy:FnT:=λc h args m=>match args with
 |[t0,t1,t2]=>xff c h m.next t0 t1 t2 ⟨m.hp,m.next+1⟩ 0
 |_=>none
noncomputable def xvz:FnT:=λc h args m=>match args with
 |[t0,t1]=>xfg c h m.next t0 t1 ⟨m.hp,m.next+1⟩ 0
 |_=>none
noncomputable def xw0:FnT:=λc h args m=>match args with
 |[t0]=>xfk c h m.next t0 ⟨m.hp,m.next+1⟩ 0
 |_=>none
noncomputable def xw1:FnT:=λc h args m=>match args with
 |[t0,t1,t2,t3,t4]=>xfl c h m.next t0 t1 t2 t3 t4 ⟨m.hp,m.next+1⟩ 0
 |_=>none
noncomputable def xw2:FnT:=λc h args m=>match args with
 |[t0,t1]=>xfm c h m.next t0 t1 ⟨m.hp,m.next+1⟩ 0
 |_=>none
noncomputable def xw3:FnT:=λc h args m=>match args with
 |[t0,t1]=>xfq c h m.next t0 t1 ⟨m.hp,m.next+1⟩ 0
 |_=>none
noncomputable def xw4:FnT:=λc h args m=>match args with
 |[t0,t1]=>xfs c h m.next t0 t1 ⟨m.hp,m.next+1⟩ 0
 |_=>none
noncomputable def xw5:FnT:=λc h args m=>match args with
 |[t0]=>xfu c h m.next t0 ⟨m.hp,m.next+1⟩ 0
 |_=>none
noncomputable def xw6:FnT:=λc h args m=>match args with
 |[t0,t1,t2]=>xfz c h m.next t0 t1 t2 ⟨m.hp,m.next+1⟩ 0
 |_=>none
noncomputable def xw7:FnT:=λc h args m=>match args with
 |[t0]=>xg0 c h m.next t0 ⟨m.hp,m.next+1⟩ 0
 |_=>none
noncomputable def xw8:FnT:=λc h args m=>match args with
 |[t0,t1,t2,t3]=>xg5 c h m.next t0 t1 t2 t3 ⟨m.hp,m.next+1⟩ 0
 |_=>none
noncomputable def xw9:FnT:=λc h args m=>match args with
 |[t0]=>xg6 c h m.next t0 ⟨m.hp,m.next+1⟩ 0
 |_=>none
noncomputable def xwa:FnT:=λc h args m=>match args with
 |[t0,t1,t2]=>xg9 c h m.next t0 t1 t2 ⟨m.hp,m.next+1⟩ 0
 |_=>none
noncomputable def xwb:FnT:=λc h args m=>match args with
 |[t0,t1]=>xga c h m.next t0 t1 ⟨m.hp,m.next+1⟩ 0
 |_=>none
noncomputable def xwc:FnT:=λc h args m=>match args with
 |[t0,t1]=>xgb c h m.next t0 t1 ⟨m.hp,m.next+1⟩ 0
 |_=>none
noncomputable def xwd:FnT:=λc h args m=>match args with
 |[t0,t1,t2]=>xgc c h m.next t0 t1 t2 ⟨m.hp,m.next+1⟩ 0
 |_=>none
noncomputable def xwe:FnT:=λc h args m=>match args with
 |[t0,t1,t2]=>xgd c h m.next t0 t1 t2 ⟨m.hp,m.next+1⟩ 0
 |_=>none
noncomputable def xwf:FnT:=λc h args m=>match args with
 |[t0]=>xge c h m.next t0 ⟨m.hp,m.next+1⟩ 0
 |_=>none
noncomputable def xwg:FnT:=λc h args m=>match args with
 |[t0]=>xgf c h m.next t0 ⟨m.hp,m.next+1⟩ 0
 |_=>none
noncomputable def xwh:FnT:=λc h args m=>match args with
 |[t0]=>xgj c h m.next t0 ⟨m.hp,m.next+1⟩ 0
 |_=>none
noncomputable def xwi:FnT:=λc h args m=>match args with
 |[t0,t1]=>xgk c h m.next t0 t1 ⟨m.hp,m.next+1⟩ 0
 |_=>none
noncomputable def xwj:FnT:=λc h args m=>match args with
 |[t0,t1]=>xgl c h m.next t0 t1 ⟨m.hp,m.next+1⟩ 0
 |_=>none
noncomputable def xwk:FnT:=λc h args m=>match args with
 |[t0,t1,t2,t3]=>xgo c h m.next t0 t1 t2 t3 ⟨m.hp,m.next+1⟩ 0
 |_=>none
noncomputable def xwl:FnT:=λc h args m=>match args with
 |[t0,t1,t2,t3,t4]=>xgx c h m.next t0 t1 t2 t3 t4 ⟨m.hp,m.next+1⟩ 0
 |_=>none
noncomputable def xwm:FnT:=λc h args m=>match args with
 |[t0,t1,t2]=>xh0 c h m.next t0 t1 t2 ⟨m.hp,m.next+1⟩ 0
 |_=>none
noncomputable def xwn:FnT:=λc h args m=>match args with
 |[t0,t1,t2]=>xh3 c h m.next t0 t1 t2 ⟨m.hp,m.next+1⟩ 0
 |_=>none
noncomputable def xwo:FnT:=λc h args m=>match args with
 |[t0,t1,t2]=>xh6 c h m.next t0 t1 t2 ⟨m.hp,m.next+1⟩ 0
 |_=>none
noncomputable def xwp:FnT:=λc h args m=>match args with
 |[t0,t1,t2]=>xh9 c h m.next t0 t1 t2 ⟨m.hp,m.next+1⟩ 0
 |_=>none
noncomputable def xwq:FnT:=λc h args m=>match args with
 |[t0,t1,t2]=>xhb c h m.next t0 t1 t2 ⟨m.hp,m.next+1⟩ 0
 |_=>none
noncomputable def xwr:FnT:=λc h args m=>match args with
 |[t0,t1,t2]=>xhg c h m.next t0 t1 t2 ⟨m.hp,m.next+1⟩ 0
 |_=>none
noncomputable def xws:FnT:=λc h args m=>match args with
 |[t0,t1]=>xhh c h m.next t0 t1 ⟨m.hp,m.next+1⟩ 0
 |_=>none
noncomputable def xwt:FnT:=λc h args m=>match args with
 |[t0,t1,t2,t3]=>xhl c h m.next t0 t1 t2 t3 ⟨m.hp,m.next+1⟩ 0
 |_=>none
noncomputable def xwu:FnT:=λc h args m=>match args with
 |[t0,t1,t2,t3]=>xhr c h m.next t0 t1 t2 t3 ⟨m.hp,m.next+1⟩ 0
 |_=>none
noncomputable def xwv:FnT:=λc h args m=>match args with
 |[t0]=>xhu c h m.next t0 ⟨m.hp,m.next+1⟩ 0
 |_=>none
noncomputable def xww:FnT:=λc h args m=>match args with
 |[t0,t1,t2]=>xhz c h m.next t0 t1 t2 ⟨m.hp,m.next+1⟩ 0
 |_=>none
noncomputable def xwx:FnT:=λc h args m=>match args with
 |[t0]=>xi0 c h m.next t0 ⟨m.hp,m.next+1⟩ 0
 |_=>none
noncomputable def xwy:FnT:=λc h args m=>match args with
 |[t0]=>xi1 c h m.next t0 ⟨m.hp,m.next+1⟩ 0
 |_=>none
noncomputable def xwz:FnT:=λc h args m=>match args with
 |[t0]=>xi2 c h m.next t0 ⟨m.hp,m.next+1⟩ 0
 |_=>none
noncomputable def xx0:FnT:=λc h args m=>match args with
 |[t0,t1]=>xi4 c h m.next t0 t1 ⟨m.hp,m.next+1⟩ 0
 |_=>none
noncomputable def xx1:FnT:=λc h args m=>match args with
 |[t0,t1,t2,t3,t4]=>xi6 c h m.next t0 t1 t2 t3 t4 ⟨m.hp,m.next+1⟩ 0
 |_=>none
noncomputable def xx2:FnT:=λc h args m=>match args with
 |[t0,t1,t2,t3]=>xi9 c h m.next t0 t1 t2 t3 ⟨m.hp,m.next+1⟩ 0
 |_=>none
noncomputable def xx3:FnT:=λc h args m=>match args with
 |[t0]=>xia c h m.next t0 ⟨m.hp,m.next+1⟩ 0
 |_=>none
noncomputable def xx4:FnT:=λc h args m=>match args with
 |[t0]=>xib c h m.next t0 ⟨m.hp,m.next+1⟩ 0
 |_=>none
noncomputable def xx5:FnT:=λc h args m=>match args with
 |[t0,t1,t2]=>xic c h m.next t0 t1 t2 ⟨m.hp,m.next+1⟩ 0
 |_=>none
noncomputable def xx6:FnT:=λc h args m=>match args with
 |[t0,t1,t2,t3,t4]=>xid c h m.next t0 t1 t2 t3 t4 ⟨m.hp,m.next+1⟩ 0
 |_=>none
noncomputable def xx7:FnT:=λc h args m=>match args with
 |[t0]=>xie c h m.next t0 ⟨m.hp,m.next+1⟩ 0
 |_=>none
noncomputable def xx8:FnT:=λc h args m=>match args with
 |[t0]=>xif c h m.next t0 ⟨m.hp,m.next+1⟩ 0
 |_=>none
noncomputable def xx9:FnT:=λc h args m=>match args with
 |[t0]=>xih c h m.next t0 ⟨m.hp,m.next+1⟩ 0
 |_=>none
noncomputable def xxa:FnT:=λc h args m=>match args with
 |[t0,t1,t2,t3,t4]=>xij c h m.next t0 t1 t2 t3 ⟨m.hp,m.next+1⟩ 0
 |_=>none
noncomputable def xxb:FnT:=λc h args m=>match args with
 |[t0,t1,t2,t3]=>xik c h m.next t0 t1 t2 t3 ⟨m.hp,m.next+1⟩ 0
 |_=>none
end Go.Ix
