import Derived.Test.YthfjdkhccimggaaGreatDoorFxText0
import Derived.Test.YthfjdkhccimggaaGreatDoorFxText1
set_option linter.unusedVariables false
namespace Go.Ix
open Go.Proofs
noncomputable def x8m:FnT:=λc h args m=>match args with
 |[t0,t1,t2]=>x70 c h m.next t0 t1 t2 ⟨m.hp,m.next+1⟩ 0
 |_=>none
noncomputable def xs9:FnT:=λc h args m=>match args with
 |[]=>x9a c h m.next ⟨m.hp,m.next+1⟩ 0
 |_=>none
noncomputable def xsa:FnT:=λc h args m=>match args with
 |[t0,t1,t2]=>x9b c h m.next t0 t1 t2 ⟨m.hp,m.next+1⟩ 0
 |_=>none
noncomputable def xsb:FnT:=λc h args m=>match args with
 |[t0]=>x9h c h m.next t0 ⟨m.hp,m.next+1⟩ 0
 |_=>none
noncomputable def xsc:FnT:=λc h args m=>match args with
 |[t0,t1]=>x9j c h m.next t0 t1 ⟨m.hp,m.next+1⟩ 0
 |_=>none
noncomputable def x8n:FnT:=λc h args m=>match args with
 |[t0]=>x76 c h m.next t0 ⟨m.hp,m.next+1⟩ 0
 |_=>none
noncomputable def x8o:FnT:=λc h args m=>match args with
 |[t0,t1]=>x78 c h m.next t0 t1 ⟨m.hp,m.next+1⟩ 0
 |_=>none
noncomputable def x8p:FnT:=λc h args m=>match args with
 |[t0]=>x79 c h m.next t0 ⟨m.hp,m.next+1⟩ 0
 |_=>none
noncomputable def x3w:FnT:=λc h args m=>match args with
 |[t0]=>x3l c h m.next t0 ⟨m.hp,m.next+1⟩ 0
 |_=>none
noncomputable def x8q:FnT:=λc h args m=>match args with
 |[t0]=>x7e c h m.next t0 ⟨m.hp,m.next+1⟩ 0
 |_=>none
noncomputable def x8r:FnT:=λc h args m=>match args with
 |[t0,t1]=>x7g c h m.next t0 t1 ⟨m.hp,m.next+1⟩ 0
 |_=>none
noncomputable def x8s:FnT:=λc h args m=>match args with
 |[t0,t1]=>x7h c h m.next t0 t1 ⟨m.hp,m.next+1⟩ 0
 |_=>none
noncomputable def x8t:FnT:=λc h args m=>match args with
 |[t0]=>x7l c h m.next t0 ⟨m.hp,m.next+1⟩ 0
 |_=>none
noncomputable def xip:FnT:=λc h args m=>match args with
 |[t0,t1]=>x9w c h m.next t0 t1 ⟨m.hp,m.next+1⟩ 0
 |_=>none
noncomputable def xsd:FnT:=λc h args m=>match args with
 |[t0]=>x9x c h m.next t0 ⟨m.hp,m.next+1⟩ 0
 |_=>none
noncomputable def x8u:FnT:=λc h args m=>match args with
 |[t0,t1,t2]=>x7n c h m.next t0 t1 t2 ⟨m.hp,m.next+1⟩ 0
 |_=>none
noncomputable def xse:FnT:=λc h args m=>match args with
 |[t0,t1,t2]=>x9y c h m.next t0 t1 t2 ⟨m.hp,m.next+1⟩ 0
 |_=>none
noncomputable def xsf:FnT:=λc h args m=>match args with
 |[]=>x9z c h m.next ⟨m.hp,m.next+1⟩ 0
 |_=>none
noncomputable def xsg:FnT:=λc h args m=>match args with
 |[]=>xa0 c h m.next ⟨m.hp,m.next+1⟩ 0
 |_=>none
noncomputable def xsh:FnT:=λc h args m=>match args with
 |[]=>xa1 c h m.next ⟨m.hp,m.next+1⟩ 0
 |_=>none
noncomputable def xsi:FnT:=λc h args m=>match args with
 |[t0,t1,t2]=>xa2 c h m.next t0 t1 t2 ⟨m.hp,m.next+1⟩ 0
 |_=>none
noncomputable def xsj:FnT:=λc h args m=>match args with
 |[t0]=>xa3 c h m.next t0 ⟨m.hp,m.next+1⟩ 0
 |_=>none
noncomputable def xsk:FnT:=λc h args m=>match args with
 |[t0,t1,t2]=>xa4 c h m.next t0 t1 t2 ⟨m.hp,m.next+1⟩ 0
 |_=>none
noncomputable def xsl:FnT:=λc h args m=>match args with
 |[t0]=>xa6 c h m.next t0 ⟨m.hp,m.next+1⟩ 0
 |_=>none
noncomputable def xsm:FnT:=λc h args m=>match args with
 |[t0,t1]=>xa8 c h m.next t0 t1 ⟨m.hp,m.next+1⟩ 0
 |_=>none
noncomputable def x8v:FnT:=λc h args m=>match args with
 |[t0,t1,t2]=>x7o c h m.next t0 t1 t2 ⟨m.hp,m.next+1⟩ 0
 |_=>none
noncomputable def xsn:FnT:=λc h args m=>match args with
 |[t0]=>xaa c h m.next t0 ⟨m.hp,m.next+1⟩ 0
 |_=>none
noncomputable def x8w:FnT:=λc h args m=>match args with
 |[t0,t1,t2]=>x7q c h m.next t0 t1 t2 ⟨m.hp,m.next+1⟩ 0
 |_=>none
noncomputable def xso:FnT:=λc h args m=>match args with
 |[t0,t1]=>xad c h m.next t0 t1 ⟨m.hp,m.next+1⟩ 0
 |_=>none
noncomputable def xsp:FnT:=λc h args m=>match args with
 |[t0]=>xah c h m.next t0 ⟨m.hp,m.next+1⟩ 0
 |_=>none
noncomputable def xiq:FnT:=λc h args m=>match args with
 |[t0]=>xai c h m.next t0 ⟨m.hp,m.next+1⟩ 0
 |_=>none
noncomputable def xsq:FnT:=λc h args m=>match args with
 |[t0,t1]=>xaj c h m.next t0 t1 ⟨m.hp,m.next+1⟩ 0
 |_=>none
noncomputable def xsr:FnT:=λc h args m=>match args with
 |[t0,t1]=>xak c h m.next t0 t1 ⟨m.hp,m.next+1⟩ 0
 |_=>none
noncomputable def xss:FnT:=λc h args m=>match args with
 |[t0,t1]=>xal c h m.next t0 t1 ⟨m.hp,m.next+1⟩ 0
 |_=>none
noncomputable def xst:FnT:=λc h args m=>match args with
 |[t0]=>xam c h m.next t0 ⟨m.hp,m.next+1⟩ 0
 |_=>none
noncomputable def xsu:FnT:=λc h args m=>match args with
 |[t0,t1]=>xan c h m.next t0 t1 ⟨m.hp,m.next+1⟩ 0
 |_=>none
noncomputable def xsv:FnT:=λc h args m=>match args with
 |[t0,t1]=>xao c h m.next t0 t1 ⟨m.hp,m.next+1⟩ 0
 |_=>none
noncomputable def x8x:FnT:=λc h args m=>match args with
 |[t0]=>x7s c h m.next t0 ⟨m.hp,m.next+1⟩ 0
 |_=>none
noncomputable def x8y:FnT:=λc h args m=>match args with
 |[t0,t1]=>x7v c h m.next t0 t1 ⟨m.hp,m.next+1⟩ 0
 |_=>none
noncomputable def x8z:FnT:=λc h args m=>match args with
 |[t0]=>x7x c h m.next t0 ⟨m.hp,m.next+1⟩ 0
 |_=>none
noncomputable def x90:FnT:=λc h args m=>match args with
 |[t0,t1]=>x7y c h m.next t0 t1 ⟨m.hp,m.next+1⟩ 0
 |_=>none
noncomputable def x91:FnT:=λc h args m=>match args with
 |[t0,t1]=>x80 c h m.next t0 t1 ⟨m.hp,m.next+1⟩ 0
 |_=>none
noncomputable def xsw:FnT:=λc h args m=>match args with
 |[t0]=>xav c h m.next t0 ⟨m.hp,m.next+1⟩ 0
 |_=>none
noncomputable def xsx:FnT:=λc h args m=>match args with
 |[t0,t1]=>xax c h m.next t0 t1 ⟨m.hp,m.next+1⟩ 0
 |_=>none
noncomputable def x92:FnT:=λc h args m=>match args with
 |[t0,t1]=>x81 c h m.next t0 t1 ⟨m.hp,m.next+1⟩ 0
 |_=>none
noncomputable def x93:FnT:=λc h args m=>match args with
 |[t0]=>x82 c h m.next t0 ⟨m.hp,m.next+1⟩ 0
 |_=>none
noncomputable def x94:FnT:=λc h args m=>match args with
 |[t0]=>x83 c h m.next t0 ⟨m.hp,m.next+1⟩ 0
 |_=>none
noncomputable def xsy:FnT:=λc h args m=>match args with
 |[t0,t1]=>xaz c h m.next t0 t1 ⟨m.hp,m.next+1⟩ 0
 |_=>none
noncomputable def xsz:FnT:=λc h args m=>match args with
 |[t0,t1]=>xb0 c h m.next t0 t1 ⟨m.hp,m.next+1⟩ 0
 |_=>none
noncomputable def xt0:FnT:=λc h args m=>match args with
 |[t0,t1]=>xb2 c h m.next t0 t1 ⟨m.hp,m.next+1⟩ 0
 |_=>none
noncomputable def x95:FnT:=λc h args m=>match args with
 |[t0]=>x87 c h m.next t0 ⟨m.hp,m.next+1⟩ 0
 |_=>none
noncomputable def xt1:FnT:=λc h args m=>match args with
 |[t0]=>xb6 c h m.next t0 ⟨m.hp,m.next+1⟩ 0
 |_=>none
noncomputable def xt2:FnT:=λc h args m=>match args with
 |[t0]=>xb8 c h m.next t0 ⟨m.hp,m.next+1⟩ 0
 |_=>none
noncomputable def xt3:FnT:=λc h args m=>match args with
 |[t0,t1]=>xba c h m.next t0 t1 ⟨m.hp,m.next+1⟩ 0
 |_=>none
noncomputable def xt4:FnT:=λc h args m=>match args with
 |[t0,t1]=>xbb c h m.next t0 t1 ⟨m.hp,m.next+1⟩ 0
 |_=>none
noncomputable def xt5:FnT:=λc h args m=>match args with
 |[t0,t1]=>xbc c h m.next t0 t1 ⟨m.hp,m.next+1⟩ 0
 |_=>none
noncomputable def xt6:FnT:=λc h args m=>match args with
 |[t0,t1]=>xbd c h m.next t0 t1 ⟨m.hp,m.next+1⟩ 0
 |_=>none
noncomputable def xt7:FnT:=λc h args m=>match args with
 |[t0]=>xbe c h m.next t0 ⟨m.hp,m.next+1⟩ 0
 |_=>none
noncomputable def xt8:FnT:=λc h args m=>match args with
 |[t0,t1]=>xbg c h m.next t0 t1 ⟨m.hp,m.next+1⟩ 0
 |_=>none
noncomputable def xt9:FnT:=λc h args m=>match args with
 |[t0,t1]=>xbh c h m.next t0 t1 ⟨m.hp,m.next+1⟩ 0
 |_=>none
noncomputable def xta:FnT:=λc h args m=>match args with
 |[t0]=>xbi c h m.next t0 ⟨m.hp,m.next+1⟩ 0
 |_=>none
noncomputable def xtb:FnT:=λc h args m=>match args with
 |[t0]=>xbj c h m.next t0 ⟨m.hp,m.next+1⟩ 0
 |_=>none
noncomputable def xtc:FnT:=λc h args m=>match args with
 |[t0,t1]=>xbl c h m.next t0 t1 ⟨m.hp,m.next+1⟩ 0
 |_=>none
noncomputable def xtd:FnT:=λc h args m=>match args with
 |[t0,t1]=>xbm c h m.next t0 t1 ⟨m.hp,m.next+1⟩ 0
 |_=>none
noncomputable def xte:FnT:=λc h args m=>match args with
 |[t0,t1]=>xbn c h m.next t0 t1 ⟨m.hp,m.next+1⟩ 0
 |_=>none
noncomputable def xtf:FnT:=λc h args m=>match args with
 |[t0,t1]=>xbp c h m.next t0 t1 ⟨m.hp,m.next+1⟩ 0
 |_=>none
noncomputable def xtg:FnT:=λc h args m=>match args with
 |[t0,t1]=>xbq c h m.next t0 t1 ⟨m.hp,m.next+1⟩ 0
 |_=>none
noncomputable def xth:FnT:=λc h args m=>match args with
 |[t0,t1,t2]=>xbs c h m.next t0 t1 t2 ⟨m.hp,m.next+1⟩ 0
 |_=>none
noncomputable def xti:FnT:=λc h args m=>match args with
 |[t0,t1]=>xbt c h m.next t0 t1 ⟨m.hp,m.next+1⟩ 0
 |_=>none
noncomputable def xtj:FnT:=λc h args m=>match args with
 |[t0,t1,t2,t3]=>xby c h m.next t0 t1 t2 t3 ⟨m.hp,m.next+1⟩ 0
 |_=>none
noncomputable def xtk:FnT:=λc h args m=>match args with
 |[t0]=>xbz c h m.next t0 ⟨m.hp,m.next+1⟩ 0
 |_=>none
noncomputable def xtl:FnT:=λc h args m=>match args with
 |[t0,t1]=>xc1 c h m.next t0 t1 ⟨m.hp,m.next+1⟩ 0
 |_=>none
noncomputable def xtm:FnT:=λc h args m=>match args with
 |[t0,t1]=>xc2 c h m.next t0 t1 ⟨m.hp,m.next+1⟩ 0
 |_=>none
noncomputable def xtn:FnT:=λc h args m=>match args with
 |[t0]=>xc3 c h m.next t0 ⟨m.hp,m.next+1⟩ 0
 |_=>none
noncomputable def xto:FnT:=λc h args m=>match args with
 |[t0]=>xc4 c h m.next t0 ⟨m.hp,m.next+1⟩ 0
 |_=>none
noncomputable def xtp:FnT:=λc h args m=>match args with
 |[t0,t1]=>xc7 c h m.next t0 t1 ⟨m.hp,m.next+1⟩ 0
 |_=>none
noncomputable def xtq:FnT:=λc h args m=>match args with
 |[t0,t1,t2]=>xc8 c h m.next t0 t1 t2 ⟨m.hp,m.next+1⟩ 0
 |_=>none
noncomputable def xtr:FnT:=λc h args m=>match args with
 |[t0]=>xc9 c h m.next t0 ⟨m.hp,m.next+1⟩ 0
 |_=>none
noncomputable def xts:FnT:=λc h args m=>match args with
 |[t0,t1]=>xca c h m.next t0 t1 ⟨m.hp,m.next+1⟩ 0
 |_=>none
noncomputable def xtt:FnT:=λc h args m=>match args with
 |[t0]=>xcb c h m.next t0 ⟨m.hp,m.next+1⟩ 0
 |_=>none
noncomputable def xtu:FnT:=λc h args m=>match args with
 |[t0,t1]=>xcc c h m.next t0 t1 ⟨m.hp,m.next+1⟩ 0
 |_=>none
noncomputable def xtv:FnT:=λc h args m=>match args with
 |[t0,t1]=>xcd c h m.next t0 t1 ⟨m.hp,m.next+1⟩ 0
 |_=>none
noncomputable def xtw:FnT:=λc h args m=>match args with
 |[t0,t1]=>xcf c h m.next t0 t1 ⟨m.hp,m.next+1⟩ 0
 |_=>none
noncomputable def xtx:FnT:=λc h args m=>match args with
 |[t0,t1]=>xcg c h m.next t0 t1 ⟨m.hp,m.next+1⟩ 0
 |_=>none
noncomputable def xty:FnT:=λc h args m=>match args with
 |[t0,t1]=>xcl c h m.next t0 t1 ⟨m.hp,m.next+1⟩ 0
 |_=>none
noncomputable def xtz:FnT:=λc h args m=>match args with
 |[t0,t1]=>xcm c h m.next t0 t1 ⟨m.hp,m.next+1⟩ 0
 |_=>none
noncomputable def xu0:FnT:=λc h args m=>match args with
 |[t0,t1,t2]=>xcn c h m.next t0 t1 t2 ⟨m.hp,m.next+1⟩ 0
 |_=>none
noncomputable def xu1:FnT:=λc h args m=>match args with
 |[t0,t1,t2]=>xcp c h m.next t0 t1 t2 ⟨m.hp,m.next+1⟩ 0
 |_=>none
noncomputable def xu2:FnT:=λc h args m=>match args with
 |[t0,t1]=>xcq c h m.next t0 t1 ⟨m.hp,m.next+1⟩ 0
 |_=>none
noncomputable def xu3:FnT:=λc h args m=>match args with
 |[t0,t1]=>xcr c h m.next t0 t1 ⟨m.hp,m.next+1⟩ 0
 |_=>none
noncomputable def xu4:FnT:=λc h args m=>match args with
 |[t0,t1]=>xcs c h m.next t0 t1 ⟨m.hp,m.next+1⟩ 0
 |_=>none
noncomputable def xu5:FnT:=λc h args m=>match args with
 |[t0]=>xcu c h m.next t0 ⟨m.hp,m.next+1⟩ 0
 |_=>none
noncomputable def xu6:FnT:=λc h args m=>match args with
 |[t0,t1]=>xcx c h m.next t0 t1 ⟨m.hp,m.next+1⟩ 0
 |_=>none
noncomputable def xu7:FnT:=λc h args m=>match args with
 |[t0,t1,t2]=>xd0 c h m.next t0 t1 t2 ⟨m.hp,m.next+1⟩ 0
 |_=>none
noncomputable def xu8:FnT:=λc h args m=>match args with
 |[t0,t1,t2]=>xd3 c h m.next t0 t1 t2 ⟨m.hp,m.next+1⟩ 0
 |_=>none
noncomputable def xu9:FnT:=λc h args m=>match args with
 |[t0,t1,t2]=>xd6 c h m.next t0 t1 t2 ⟨m.hp,m.next+1⟩ 0
 |_=>none
noncomputable def xua:FnT:=λc h args m=>match args with
 |[t0,t1,t2]=>xd9 c h m.next t0 t1 t2 ⟨m.hp,m.next+1⟩ 0
 |_=>none
noncomputable def xub:FnT:=λc h args m=>match args with
 |[t0,t1,t2]=>xdb c h m.next t0 t1 t2 ⟨m.hp,m.next+1⟩ 0
 |_=>none
noncomputable def xuc:FnT:=λc h args m=>match args with
 |[t0,t1,t2]=>xdg c h m.next t0 t1 t2 ⟨m.hp,m.next+1⟩ 0
 |_=>none
noncomputable def xud:FnT:=λc h args m=>match args with
 |[t0,t1]=>xdh c h m.next t0 t1 ⟨m.hp,m.next+1⟩ 0
 |_=>none
noncomputable def xue:FnT:=λc h args m=>match args with
 |[t0,t1,t2,t3]=>xdl c h m.next t0 t1 t2 t3 ⟨m.hp,m.next+1⟩ 0
 |_=>none
noncomputable def xuf:FnT:=λc h args m=>match args with
 |[t0,t1,t2,t3]=>xdr c h m.next t0 t1 t2 t3 ⟨m.hp,m.next+1⟩ 0
 |_=>none
noncomputable def xug:FnT:=λc h args m=>match args with
 |[t0]=>xdu c h m.next t0 ⟨m.hp,m.next+1⟩ 0
 |_=>none
noncomputable def xuh:FnT:=λc h args m=>match args with
 |[t0]=>xdy c h m.next t0 ⟨m.hp,m.next+1⟩ 0
 |_=>none
noncomputable def xui:FnT:=λc h args m=>match args with
 |[t0]=>xdz c h m.next t0 ⟨m.hp,m.next+1⟩ 0
 |_=>none
noncomputable def xuj:FnT:=λc h args m=>match args with
 |[t0,t1]=>xe1 c h m.next t0 t1 ⟨m.hp,m.next+1⟩ 0
 |_=>none
noncomputable def xuk:FnT:=λc h args m=>match args with
 |[t0]=>xe2 c h m.next t0 ⟨m.hp,m.next+1⟩ 0
 |_=>none
noncomputable def xul:FnT:=λc h args m=>match args with
 |[t0]=>xe3 c h m.next t0 ⟨m.hp,m.next+1⟩ 0
 |_=>none
noncomputable def xum:FnT:=λc h args m=>match args with
 |[t0]=>xe4 c h m.next t0 ⟨m.hp,m.next+1⟩ 0
 |_=>none
noncomputable def xun:FnT:=λc h args m=>match args with
 |[t0]=>xe5 c h m.next t0 ⟨m.hp,m.next+1⟩ 0
 |_=>none
noncomputable def xuo:FnT:=λc h args m=>match args with
 |[t0]=>xe6 c h m.next t0 ⟨m.hp,m.next+1⟩ 0
 |_=>none
noncomputable def xup:FnT:=λc h args m=>match args with
 |[t0]=>xe7 c h m.next t0 ⟨m.hp,m.next+1⟩ 0
 |_=>none
noncomputable def xuq:FnT:=λc h args m=>match args with
 |[t0,t1]=>xe9 c h m.next t0 t1 ⟨m.hp,m.next+1⟩ 0
 |_=>none
noncomputable def xur:FnT:=λc h args m=>match args with
 |[t0]=>xea c h m.next t0 ⟨m.hp,m.next+1⟩ 0
 |_=>none
noncomputable def xus:FnT:=λc h args m=>match args with
 |[t0,t1]=>xeb c h m.next t0 t1 ⟨m.hp,m.next+1⟩ 0
 |_=>none
noncomputable def xut:FnT:=λc h args m=>match args with
 |[t0,t1]=>xec c h m.next t0 t1 ⟨m.hp,m.next+1⟩ 0
 |_=>none
noncomputable def xuu:FnT:=λc h args m=>match args with
 |[t0,t1]=>xed c h m.next t0 t1 ⟨m.hp,m.next+1⟩ 0
 |_=>none
noncomputable def xuv:FnT:=λc h args m=>match args with
 |[t0,t1]=>xeg c h m.next t0 t1 ⟨m.hp,m.next+1⟩ 0
 |_=>none
noncomputable def xuw:FnT:=λc h args m=>match args with
 |[t0,t1]=>xei c h m.next t0 t1 ⟨m.hp,m.next+1⟩ 0
 |_=>none
noncomputable def xux:FnT:=λc h args m=>match args with
 |[t0]=>xej c h m.next t0 ⟨m.hp,m.next+1⟩ 0
 |_=>none
noncomputable def xuy:FnT:=λc h args m=>match args with
 |[t0,t1,t2]=>xek c h m.next t0 t1 t2 ⟨m.hp,m.next+1⟩ 0
 |_=>none
noncomputable def xuz:FnT:=λc h args m=>match args with
 |[t0,t1]=>xem c h m.next t0 t1 ⟨m.hp,m.next+1⟩ 0
 |_=>none
noncomputable def xv0:FnT:=λc h args m=>match args with
 |[t0,t1]=>xep c h m.next t0 t1 ⟨m.hp,m.next+1⟩ 0
 |_=>none
noncomputable def xv1:FnT:=λc h args m=>match args with
 |[t0,t1]=>xes c h m.next t0 t1 ⟨m.hp,m.next+1⟩ 0
 |_=>none
noncomputable def xv2:FnT:=λc h args m=>match args with
 |[t0,t1,t2]=>xet c h m.next t0 t1 t2 ⟨m.hp,m.next+1⟩ 0
 |_=>none
noncomputable def xv3:FnT:=λc h args m=>match args with
 |[t0,t1]=>xeu c h m.next t0 t1 ⟨m.hp,m.next+1⟩ 0
 |_=>none
noncomputable def xv4:FnT:=λc h args m=>match args with
 |[t0,t1,t2,t3]=>xex c h m.next t0 t1 t2 t3 ⟨m.hp,m.next+1⟩ 0
 |_=>none
noncomputable def xv5:FnT:=λc h args m=>match args with
 |[t0]=>xey c h m.next t0 ⟨m.hp,m.next+1⟩ 0
 |_=>none
noncomputable def xv6:FnT:=λc h args m=>match args with
 |[t0]=>xez c h m.next t0 ⟨m.hp,m.next+1⟩ 0
 |_=>none
noncomputable def xv7:FnT:=λc h args m=>match args with
 |[t0,t1,t2]=>xf0 c h m.next t0 t1 t2 ⟨m.hp,m.next+1⟩ 0
 |_=>none
noncomputable def xv8:FnT:=λc h args m=>match args with
 |[t0,t1,t2,t3,t4]=>xf1 c h m.next t0 t1 t2 t3 t4 ⟨m.hp,m.next+1⟩ 0
 |_=>none
noncomputable def xv9:FnT:=λc h args m=>match args with
 |[t0]=>xf2 c h m.next t0 ⟨m.hp,m.next+1⟩ 0
 |_=>none
noncomputable def xva:FnT:=λc h args m=>match args with
 |[t0,t1]=>xf3 c h m.next t0 t1 ⟨m.hp,m.next+1⟩ 0
 |_=>none
noncomputable def xvb:FnT:=λc h args m=>match args with
 |[t0,t1]=>xf4 c h m.next t0 t1 ⟨m.hp,m.next+1⟩ 0
 |_=>none
noncomputable def xvc:FnT:=λc h args m=>match args with
 |[t0,t1,t2,t3]=>xf8 c h m.next t0 t1 t2 t3 ⟨m.hp,m.next+1⟩ 0
 |_=>none
noncomputable def xvd:FnT:=λc h args m=>match args with
 |[t0,t1]=>xfa c h m.next t0 t1 ⟨m.hp,m.next+1⟩ 0
 |_=>none
noncomputable def xve:FnT:=λc h args m=>match args with
 |[t0]=>xfb c h m.next t0 ⟨m.hp,m.next+1⟩ 0
 |_=>none
noncomputable def xvf:FnT:=λc h args m=>match args with
 |[t0,t1]=>xfe c h m.next t0 t1 ⟨m.hp,m.next+1⟩ 0
 |_=>none
noncomputable def xvg:FnT:=λc h args m=>match args with
 |[t0]=>xff c h m.next t0 ⟨m.hp,m.next+1⟩ 0
 |_=>none
noncomputable def xvh:FnT:=λc h args m=>match args with
 |[t0]=>xfg c h m.next t0 ⟨m.hp,m.next+1⟩ 0
 |_=>none
noncomputable def xvi:FnT:=λc h args m=>match args with
 |[t0,t1]=>xfk c h m.next t0 t1 ⟨m.hp,m.next+1⟩ 0
 |_=>none
noncomputable def xvj:FnT:=λc h args m=>match args with
 |[t0,t1,t2,t3,t4]=>xfq c h m.next t0 t1 t2 t3 t4 ⟨m.hp,m.next+1⟩ 0
 |_=>none
noncomputable def xvk:FnT:=λc h args m=>match args with
 |[t0]=>xfr c h m.next t0 ⟨m.hp,m.next+1⟩ 0
 |_=>none
noncomputable def xvl:FnT:=λc h args m=>match args with
 |[t0,t1]=>xfs c h m.next t0 t1 ⟨m.hp,m.next+1⟩ 0
 |_=>none
noncomputable def xvm:FnT:=λc h args m=>match args with
 |[t0]=>xft c h m.next t0 ⟨m.hp,m.next+1⟩ 0
 |_=>none
noncomputable def xvn:FnT:=λc h args m=>match args with
 |[t0,t1]=>xfu c h m.next t0 t1 ⟨m.hp,m.next+1⟩ 0
 |_=>none
noncomputable def xvo:FnT:=λc h args m=>match args with
 |[t0]=>xfv c h m.next t0 ⟨m.hp,m.next+1⟩ 0
 |_=>none
noncomputable def xvp:FnT:=λc h args m=>match args with
 |[t0]=>xfz c h m.next t0 ⟨m.hp,m.next+1⟩ 0
 |_=>none
noncomputable def xvq:FnT:=λc h args m=>match args with
 |[t0,t1,t2,t3,t4,t5,t6]=>xg1 c h m.next t0 t1 t2 t3 t4 t5 t6 ⟨m.hp,m.next+1⟩ 0
 |_=>none
noncomputable def xvr:FnT:=λc h args m=>match args with
 |[t0,t1,t2]=>xg2 c h m.next t0 t1 t2 ⟨m.hp,m.next+1⟩ 0
 |_=>none
noncomputable def xvs:FnT:=λc h args m=>match args with
 |[t0]=>xg4 c h m.next t0 ⟨m.hp,m.next+1⟩ 0
 |_=>none
noncomputable def xvt:FnT:=λc h args m=>match args with
 |[t0,t1]=>xg7 c h m.next t0 t1 ⟨m.hp,m.next+1⟩ 0
 |_=>none
noncomputable def xvu:FnT:=λc h args m=>match args with
 |[t0,t1,t2,t3]=>xg8 c h m.next t0 t1 t2 t3 ⟨m.hp,m.next+1⟩ 0
 |_=>none
noncomputable def xvv:FnT:=λc h args m=>match args with
 |[t0]=>xgc c h m.next t0 ⟨m.hp,m.next+1⟩ 0
 |_=>none
noncomputable def xvw:FnT:=λc h args m=>match args with
 |[t0,t1,t2,t3,t4]=>xgd c h m.next t0 t1 t2 t3 t4 ⟨m.hp,m.next+1⟩ 0
 |_=>none
noncomputable def xvx:FnT:=λc h args m=>match args with
 |[t0,t1]=>xge c h m.next t0 t1 ⟨m.hp,m.next+1⟩ 0
 |_=>none
noncomputable def xvy:FnT:=λc h args m=>match args with
 |[t0,t1]=>xgi c h m.next t0 t1 ⟨m.hp,m.next+1⟩ 0
 |_=>none
noncomputable def xvz:FnT:=λc h args m=>match args with
 |[t0,t1]=>xgk c h m.next t0 t1 ⟨m.hp,m.next+1⟩ 0
 |_=>none
noncomputable def xw0:FnT:=λc h args m=>match args with
 |[t0]=>xgo c h m.next t0 ⟨m.hp,m.next+1⟩ 0
 |_=>none
noncomputable def xw1:FnT:=λc h args m=>match args with
 |[t0]=>xgp c h m.next t0 ⟨m.hp,m.next+1⟩ 0
 |_=>none
noncomputable def xw2:FnT:=λc h args m=>match args with
 |[t0]=>xgq c h m.next t0 ⟨m.hp,m.next+1⟩ 0
 |_=>none
noncomputable def xw3:FnT:=λc h args m=>match args with
 |[t0]=>xgr c h m.next t0 ⟨m.hp,m.next+1⟩ 0
 |_=>none
noncomputable def xw4:FnT:=λc h args m=>match args with
 |[t0]=>xgs c h m.next t0 ⟨m.hp,m.next+1⟩ 0
 |_=>none
noncomputable def xw5:FnT:=λc h args m=>match args with
 |[t0]=>xgu c h m.next t0 ⟨m.hp,m.next+1⟩ 0
 |_=>none
noncomputable def xs8:FnT:=λc h args m=>match args with
 |[t0,t1]=>xgw c h m.next t0 t1 ⟨m.hp,m.next+1⟩ 0
 |_=>none
noncomputable def xw6:FnT:=λc h args m=>match args with
 |[t0,t1]=>xgx c h m.next t0 t1 ⟨m.hp,m.next+1⟩ 0
 |_=>none
noncomputable def xw7:FnT:=λc h args m=>match args with
 |[t0,t1,t2]=>xgy c h m.next t0 t1 t2 ⟨m.hp,m.next+1⟩ 0
 |_=>none
noncomputable def xw8:FnT:=λc h args m=>match args with
 |[t0,t1]=>xgz c h m.next t0 t1 ⟨m.hp,m.next+1⟩ 0
 |_=>none
noncomputable def xw9:FnT:=λc h args m=>match args with
 |[t0,t1,t2,t3]=>xh2 c h m.next t0 t1 t2 t3 ⟨m.hp,m.next+1⟩ 0
 |_=>none
noncomputable def xwa:FnT:=λc h args m=>match args with
 |[t0,t1]=>xh3 c h m.next t0 t1 ⟨m.hp,m.next+1⟩ 0
 |_=>none
noncomputable def xwb:FnT:=λc h args m=>match args with
 |[t0,t1,t2]=>xh6 c h m.next t0 t1 t2 ⟨m.hp,m.next+1⟩ 0
 |_=>none
noncomputable def xwc:FnT:=λc h args m=>match args with
 |[t0,t1]=>xh7 c h m.next t0 t1 ⟨m.hp,m.next+1⟩ 0
 |_=>none
noncomputable def xwd:FnT:=λc h args m=>match args with
 |[t0,t1]=>xh8 c h m.next t0 t1 ⟨m.hp,m.next+1⟩ 0
 |_=>none
noncomputable def xwe:FnT:=λc h args m=>match args with
 |[t0,t1,t2]=>xh9 c h m.next t0 t1 t2 ⟨m.hp,m.next+1⟩ 0
 |_=>none
noncomputable def xwf:FnT:=λc h args m=>match args with
 |[t0,t1,t2]=>xha c h m.next t0 t1 t2 ⟨m.hp,m.next+1⟩ 0
 |_=>none
noncomputable def xwg:FnT:=λc h args m=>match args with
 |[t0]=>xhb c h m.next t0 ⟨m.hp,m.next+1⟩ 0
 |_=>none
noncomputable def xwh:FnT:=λc h args m=>match args with
 |[t0]=>xhc c h m.next t0 ⟨m.hp,m.next+1⟩ 0
 |_=>none
noncomputable def xwi:FnT:=λc h args m=>match args with
 |[t0]=>xhd c h m.next t0 ⟨m.hp,m.next+1⟩ 0
 |_=>none
noncomputable def xwj:FnT:=λc h args m=>match args with
 |[t0]=>xhe c h m.next t0 ⟨m.hp,m.next+1⟩ 0
 |_=>none
noncomputable def xwk:FnT:=λc h args m=>match args with
 |[t0]=>xhg c h m.next t0 ⟨m.hp,m.next+1⟩ 0
 |_=>none
noncomputable def xwl:FnT:=λc h args m=>match args with
 |[t0,t1,t2]=>xhl c h m.next t0 t1 t2 ⟨m.hp,m.next+1⟩ 0
 |_=>none
noncomputable def xwm:FnT:=λc h args m=>match args with
 |[t0]=>xhm c h m.next t0 ⟨m.hp,m.next+1⟩ 0
 |_=>none
noncomputable def xwn:FnT:=λc h args m=>match args with
 |[t0,t1,t2]=>xhr c h m.next t0 t1 t2 ⟨m.hp,m.next+1⟩ 0
 |_=>none
noncomputable def xwo:FnT:=λc h args m=>match args with
 |[t0]=>xhs c h m.next t0 ⟨m.hp,m.next+1⟩ 0
 |_=>none
noncomputable def xwp:FnT:=λc h args m=>match args with
 |[t0]=>xht c h m.next t0 ⟨m.hp,m.next+1⟩ 0
 |_=>none
noncomputable def xwq:FnT:=λc h args m=>match args with
 |[t0]=>xhu c h m.next t0 ⟨m.hp,m.next+1⟩ 0
 |_=>none
noncomputable def xwr:FnT:=λc h args m=>match args with
 |[t0]=>xhy c h m.next t0 ⟨m.hp,m.next+1⟩ 0
 |_=>none
noncomputable def xws:FnT:=λc h args m=>match args with
 |[t0,t1]=>xhz c h m.next t0 t1 ⟨m.hp,m.next+1⟩ 0
 |_=>none
noncomputable def xwt:FnT:=λc h args m=>match args with
 |[t0,t1]=>xi0 c h m.next t0 t1 ⟨m.hp,m.next+1⟩ 0
 |_=>none
noncomputable def xwu:FnT:=λc h args m=>match args with
 |[t0,t1,t2,t3]=>xi3 c h m.next t0 t1 t2 t3 ⟨m.hp,m.next+1⟩ 0
 |_=>none
noncomputable def xwv:FnT:=λc h args m=>match args with
 |[t0,t1,t2,t3,t4]=>xic c h m.next t0 t1 t2 t3 t4 ⟨m.hp,m.next+1⟩ 0
 |_=>none
noncomputable def xww:FnT:=λc h args m=>match args with
 |[t0]=>xid c h m.next t0 ⟨m.hp,m.next+1⟩ 0
 |_=>none
noncomputable def xwx:FnT:=λc h args m=>match args with
 |[t0]=>xif c h m.next t0 ⟨m.hp,m.next+1⟩ 0
 |_=>none
noncomputable def xwy:FnT:=λc h args m=>match args with
 |[t0,t1]=>xih c h m.next t0 t1 ⟨m.hp,m.next+1⟩ 0
 |_=>none
noncomputable def xwz:FnT:=λc h args m=>match args with
 |[t0,t1,t2,t3,t4]=>xij c h m.next t0 t1 t2 t3 t4 ⟨m.hp,m.next+1⟩ 0
 |_=>none
noncomputable def xx0:FnT:=λc h args m=>match args with
 |[t0,t1,t2,t3,t4]=>xil c h m.next t0 t1 t2 t3 ⟨m.hp,m.next+1⟩ 0
 |_=>none
end Go.Ix
