import Derived.Test.YtbcmiinhjgbkdaaGreatDoorFxText0
import Derived.Test.YtbcmiinhjgbkdaaGreatDoorFxText1
set_option linter.unusedVariables false
namespace Go.Ix
open Go.Proofs
noncomputable def x8u:FnT:=λc h args m=>match args with
 |[t0,t1]=>x6f c h m.next t0 t1 ⟨m.hp,m.next+1⟩ 0
 |_=>none
noncomputable def xr5:FnT:=λc h args m=>match args with
 |[]=>xa7 c h m.next ⟨m.hp,m.next+1⟩ 0
 |_=>none
noncomputable def x8v:FnT:=λc h args m=>match args with
 |[t0]=>x6i c h m.next t0 ⟨m.hp,m.next+1⟩ 0
 |_=>none
noncomputable def x8w:FnT:=λc h args m=>match args with
 |[t0]=>x6k c h m.next t0 ⟨m.hp,m.next+1⟩ 0
 |_=>none
noncomputable def x8x:FnT:=λc h args m=>match args with
 |[t0]=>x6l c h m.next t0 ⟨m.hp,m.next+1⟩ 0
 |_=>none
noncomputable def x8y:FnT:=λc h args m=>match args with
 |[t0]=>x6o c h m.next t0 ⟨m.hp,m.next+1⟩ 0
 |_=>none
noncomputable def x8z:FnT:=λc h args m=>match args with
 |[t0]=>x6r c h m.next t0 ⟨m.hp,m.next+1⟩ 0
 |_=>none
noncomputable def x90:FnT:=λc h args m=>match args with
 |[t0]=>x6t c h m.next t0 ⟨m.hp,m.next+1⟩ 0
 |_=>none
noncomputable def x91:FnT:=λc h args m=>match args with
 |[t0]=>x6w c h m.next t0 ⟨m.hp,m.next+1⟩ 0
 |_=>none
noncomputable def x92:FnT:=λc h args m=>match args with
 |[t0,t1]=>x6y c h m.next t0 t1 ⟨m.hp,m.next+1⟩ 0
 |_=>none
noncomputable def x93:FnT:=λc h args m=>match args with
 |[t0]=>x70 c h m.next t0 ⟨m.hp,m.next+1⟩ 0
 |_=>none
noncomputable def xr6:FnT:=λc h args m=>match args with
 |[t0]=>xar c h m.next t0 ⟨m.hp,m.next+1⟩ 0
 |_=>none
noncomputable def xr7:FnT:=λc h args m=>match args with
 |[]=>xas c h m.next ⟨m.hp,m.next+1⟩ 0
 |_=>none
noncomputable def xr8:FnT:=λc h args m=>match args with
 |[t0]=>xau c h m.next t0 ⟨m.hp,m.next+1⟩ 0
 |_=>none
noncomputable def xr9:FnT:=λc h args m=>match args with
 |[t0,t1]=>xav c h m.next t0 t1 ⟨m.hp,m.next+1⟩ 0
 |_=>none
noncomputable def xra:FnT:=λc h args m=>match args with
 |[t0,t1]=>xb0 c h m.next t0 t1 ⟨m.hp,m.next+1⟩ 0
 |_=>none
noncomputable def xrb:FnT:=λc h args m=>match args with
 |[t0]=>xb3 c h m.next t0 ⟨m.hp,m.next+1⟩ 0
 |_=>none
noncomputable def xrc:FnT:=λc h args m=>match args with
 |[t0,t1]=>xb5 c h m.next t0 t1 ⟨m.hp,m.next+1⟩ 0
 |_=>none
noncomputable def x94:FnT:=λc h args m=>match args with
 |[t0]=>x72 c h m.next t0 ⟨m.hp,m.next+1⟩ 0
 |_=>none
noncomputable def x95:FnT:=λc h args m=>match args with
 |[t0,t1,t2]=>x73 c h m.next t0 t1 t2 ⟨m.hp,m.next+1⟩ 0
 |_=>none
noncomputable def x96:FnT:=λc h args m=>match args with
 |[t0]=>x74 c h m.next t0 ⟨m.hp,m.next+1⟩ 0
 |_=>none
noncomputable def x97:FnT:=λc h args m=>match args with
 |[t0,t1,t2]=>x76 c h m.next t0 t1 t2 ⟨m.hp,m.next+1⟩ 0
 |_=>none
noncomputable def x98:FnT:=λc h args m=>match args with
 |[t0]=>x7a c h m.next t0 ⟨m.hp,m.next+1⟩ 0
 |_=>none
noncomputable def x99:FnT:=λc h args m=>match args with
 |[t0,t1,t2]=>x7b c h m.next t0 t1 t2 ⟨m.hp,m.next+1⟩ 0
 |_=>none
noncomputable def xik:FnT:=λc h args m=>match args with
 |[t0]=>xbf c h m.next t0 ⟨m.hp,m.next+1⟩ 0
 |_=>none
noncomputable def x9a:FnT:=λc h args m=>match args with
 |[t0,t1]=>x7c c h m.next t0 t1 ⟨m.hp,m.next+1⟩ 0
 |_=>none
noncomputable def x9b:FnT:=λc h args m=>match args with
 |[t0,t1]=>x7d c h m.next t0 t1 ⟨m.hp,m.next+1⟩ 0
 |_=>none
noncomputable def x9c:FnT:=λc h args m=>match args with
 |[t0]=>x7g c h m.next t0 ⟨m.hp,m.next+1⟩ 0
 |_=>none
noncomputable def x9d:FnT:=λc h args m=>match args with
 |[t0,t1]=>x7i c h m.next t0 t1 ⟨m.hp,m.next+1⟩ 0
 |_=>none
noncomputable def x9e:FnT:=λc h args m=>match args with
 |[t0,t1]=>x7k c h m.next t0 t1 ⟨m.hp,m.next+1⟩ 0
 |_=>none
noncomputable def x9f:FnT:=λc h args m=>match args with
 |[t0,t1]=>x7l c h m.next t0 t1 ⟨m.hp,m.next+1⟩ 0
 |_=>none
noncomputable def x9g:FnT:=λc h args m=>match args with
 |[t0]=>x7m c h m.next t0 ⟨m.hp,m.next+1⟩ 0
 |_=>none
noncomputable def xrd:FnT:=λc h args m=>match args with
 |[t0]=>xbp c h m.next t0 ⟨m.hp,m.next+1⟩ 0
 |_=>none
noncomputable def xre:FnT:=λc h args m=>match args with
 |[t0,t1]=>xbr c h m.next t0 t1 ⟨m.hp,m.next+1⟩ 0
 |_=>none
noncomputable def xrf:FnT:=λc h args m=>match args with
 |[t0]=>xbs c h m.next t0 ⟨m.hp,m.next+1⟩ 0
 |_=>none
noncomputable def xrg:FnT:=λc h args m=>match args with
 |[t0]=>xbt c h m.next t0 ⟨m.hp,m.next+1⟩ 0
 |_=>none
noncomputable def xrh:FnT:=λc h args m=>match args with
 |[t0]=>xbu c h m.next t0 ⟨m.hp,m.next+1⟩ 0
 |_=>none
noncomputable def xri:FnT:=λc h args m=>match args with
 |[t0,t1]=>xbw c h m.next t0 t1 ⟨m.hp,m.next+1⟩ 0
 |_=>none
noncomputable def xrj:FnT:=λc h args m=>match args with
 |[t0,t1]=>xbz c h m.next t0 t1 ⟨m.hp,m.next+1⟩ 0
 |_=>none
noncomputable def xrk:FnT:=λc h args m=>match args with
 |[t0,t1]=>xc2 c h m.next t0 t1 ⟨m.hp,m.next+1⟩ 0
 |_=>none
noncomputable def xrl:FnT:=λc h args m=>match args with
 |[t0]=>xc3 c h m.next t0 ⟨m.hp,m.next+1⟩ 0
 |_=>none
noncomputable def x9h:FnT:=λc h args m=>match args with
 |[t0]=>x7r c h m.next t0 ⟨m.hp,m.next+1⟩ 0
 |_=>none
noncomputable def x9i:FnT:=λc h args m=>match args with
 |[t0,t1]=>x7s c h m.next t0 t1 ⟨m.hp,m.next+1⟩ 0
 |_=>none
noncomputable def x9j:FnT:=λc h args m=>match args with
 |[t0,t1]=>x7t c h m.next t0 t1 ⟨m.hp,m.next+1⟩ 0
 |_=>none
noncomputable def x9k:FnT:=λc h args m=>match args with
 |[t0,t1]=>x7u c h m.next t0 t1 ⟨m.hp,m.next+1⟩ 0
 |_=>none
noncomputable def xrm:FnT:=λc h args m=>match args with
 |[t0]=>xc8 c h m.next t0 ⟨m.hp,m.next+1⟩ 0
 |_=>none
noncomputable def xrn:FnT:=λc h args m=>match args with
 |[t0,t1]=>xc9 c h m.next t0 t1 ⟨m.hp,m.next+1⟩ 0
 |_=>none
noncomputable def x9n:FnT:=λc h args m=>match args with
 |[t0]=>x7w c h m.next t0 ⟨m.hp,m.next+1⟩ 0
 |_=>none
noncomputable def x9o:FnT:=λc h args m=>match args with
 |[t0,t1]=>x33 c h m.next NN t0 t1 ⟨m.hp,m.next+1⟩ 0
 |_=>none
noncomputable def x9p:FnT:=λc h args m=>match args with
 |[t0,t1]=>x7x c h m.next t0 t1 ⟨m.hp,m.next+1⟩ 0
 |_=>none
noncomputable def x9q:FnT:=λc h args m=>match args with
 |[t0,t1]=>x7y c h m.next t0 t1 ⟨m.hp,m.next+1⟩ 0
 |_=>none
noncomputable def x9r:FnT:=λc h args m=>match args with
 |[t0,t1]=>x7z c h m.next t0 t1 ⟨m.hp,m.next+1⟩ 0
 |_=>none
noncomputable def x9s:FnT:=λc h args m=>match args with
 |[t0,t1]=>x82 c h m.next t0 t1 ⟨m.hp,m.next+1⟩ 0
 |_=>none
noncomputable def x9t:FnT:=λc h args m=>match args with
 |[t0]=>x83 c h m.next t0 ⟨m.hp,m.next+1⟩ 0
 |_=>none
noncomputable def x9u:FnT:=λc h args m=>match args with
 |[t0,t1]=>x87 c h m.next t0 t1 ⟨m.hp,m.next+1⟩ 0
 |_=>none
noncomputable def xro:FnT:=λc h args m=>match args with
 |[t0,t1]=>xcj c h m.next t0 t1 ⟨m.hp,m.next+1⟩ 0
 |_=>none
noncomputable def xrp:FnT:=λc h args m=>match args with
 |[t0,t1,t2]=>xck c h m.next t0 t1 t2 ⟨m.hp,m.next+1⟩ 0
 |_=>none
noncomputable def xrq:FnT:=λc h args m=>match args with
 |[t0,t1]=>xcl c h m.next t0 t1 ⟨m.hp,m.next+1⟩ 0
 |_=>none
noncomputable def xrr:FnT:=λc h args m=>match args with
 |[t0]=>xcn c h m.next t0 ⟨m.hp,m.next+1⟩ 0
 |_=>none
noncomputable def xrs:FnT:=λc h args m=>match args with
 |[t0,t1]=>xcq c h m.next t0 t1 ⟨m.hp,m.next+1⟩ 0
 |_=>none
noncomputable def xrt:FnT:=λc h args m=>match args with
 |[t0]=>xcr c h m.next t0 ⟨m.hp,m.next+1⟩ 0
 |_=>none
noncomputable def xru:FnT:=λc h args m=>match args with
 |[t0]=>xct c h m.next t0 ⟨m.hp,m.next+1⟩ 0
 |_=>none
noncomputable def xrv:FnT:=λc h args m=>match args with
 |[t0]=>xcu c h m.next t0 ⟨m.hp,m.next+1⟩ 0
 |_=>none
noncomputable def xrw:FnT:=λc h args m=>match args with
 |[t0]=>xcz c h m.next t0 ⟨m.hp,m.next+1⟩ 0
 |_=>none
noncomputable def xrx:FnT:=λc h args m=>match args with
 |[t0,t1]=>xd1 c h m.next t0 t1 ⟨m.hp,m.next+1⟩ 0
 |_=>none
noncomputable def xry:FnT:=λc h args m=>match args with
 |[t0,t1]=>xd2 c h m.next t0 t1 ⟨m.hp,m.next+1⟩ 0
 |_=>none
noncomputable def xrz:FnT:=λc h args m=>match args with
 |[t0]=>xd3 c h m.next t0 ⟨m.hp,m.next+1⟩ 0
 |_=>none
noncomputable def xs0:FnT:=λc h args m=>match args with
 |[t0]=>xd4 c h m.next t0 ⟨m.hp,m.next+1⟩ 0
 |_=>none
noncomputable def xs1:FnT:=λc h args m=>match args with
 |[t0,t1,t2,t3,t4,t5,t6]=>xd6 c h m.next t0 t1 t2 t3 t4 t5 t6 ⟨m.hp,m.next+1⟩ 0
 |_=>none
noncomputable def xs2:FnT:=λc h args m=>match args with
 |[t0,t1,t2]=>xd7 c h m.next t0 t1 t2 ⟨m.hp,m.next+1⟩ 0
 |_=>none
noncomputable def xs3:FnT:=λc h args m=>match args with
 |[t0]=>xd9 c h m.next t0 ⟨m.hp,m.next+1⟩ 0
 |_=>none
noncomputable def x9v:FnT:=λc h args m=>match args with
 |[t0,t1]=>x89 c h m.next t0 t1 ⟨m.hp,m.next+1⟩ 0
 |_=>none
noncomputable def xs4:FnT:=λc h args m=>match args with
 |[t0,t1]=>xdd c h m.next t0 t1 ⟨m.hp,m.next+1⟩ 0
 |_=>none
noncomputable def xs5:FnT:=λc h args m=>match args with
 |[t0,t1]=>xde c h m.next t0 t1 ⟨m.hp,m.next+1⟩ 0
 |_=>none
noncomputable def x9w:FnT:=λc h args m=>match args with
 |[t0,t1]=>x8a c h m.next t0 t1 ⟨m.hp,m.next+1⟩ 0
 |_=>none
noncomputable def x9x:FnT:=λc h args m=>match args with
 |[t0,t1]=>x8b c h m.next t0 t1 ⟨m.hp,m.next+1⟩ 0
 |_=>none
noncomputable def x9y:FnT:=λc h args m=>match args with
 |[t0,t1,t2,t3]=>x8d c h m.next t0 t1 t2 t3 ⟨m.hp,m.next+1⟩ 0
 |_=>none
noncomputable def x9z:FnT:=λc h args m=>match args with
 |[t0,t1]=>x8e c h m.next t0 t1 ⟨m.hp,m.next+1⟩ 0
 |_=>none
noncomputable def xs6:FnT:=λc h args m=>match args with
 |[t0,t1,t2]=>xdl c h m.next t0 t1 t2 ⟨m.hp,m.next+1⟩ 0
 |_=>none
noncomputable def xs7:FnT:=λc h args m=>match args with
 |[t0]=>xdm c h m.next t0 ⟨m.hp,m.next+1⟩ 0
 |_=>none
noncomputable def xs8:FnT:=λc h args m=>match args with
 |[t0,t1,t2,t3]=>xdr c h m.next t0 t1 t2 t3 ⟨m.hp,m.next+1⟩ 0
 |_=>none
noncomputable def xs9:FnT:=λc h args m=>match args with
 |[t0]=>xds c h m.next t0 ⟨m.hp,m.next+1⟩ 0
 |_=>none
noncomputable def xsa:FnT:=λc h args m=>match args with
 |[t0]=>xdt c h m.next t0 ⟨m.hp,m.next+1⟩ 0
 |_=>none
noncomputable def xsb:FnT:=λc h args m=>match args with
 |[t0]=>xdv c h m.next t0 ⟨m.hp,m.next+1⟩ 0
 |_=>none
noncomputable def xsc:FnT:=λc h args m=>match args with
 |[t0]=>xdx c h m.next t0 ⟨m.hp,m.next+1⟩ 0
 |_=>none
noncomputable def xr3:FnT:=λc h args m=>match args with
 |[t0,t1]=>xdz c h m.next t0 t1 ⟨m.hp,m.next+1⟩ 0
 |_=>none
noncomputable def xr4:FnT:=λc h args m=>match args with
 |[t0]=>xe0 c h m.next t0 ⟨m.hp,m.next+1⟩ 0
 |_=>none
noncomputable def xsd:FnT:=λc h args m=>match args with
 |[t0,t1]=>xe6 c h m.next t0 t1 ⟨m.hp,m.next+1⟩ 0
 |_=>none
noncomputable def xse:FnT:=λc h args m=>match args with
 |[t0]=>xe9 c h m.next t0 ⟨m.hp,m.next+1⟩ 0
 |_=>none
noncomputable def xr2:FnT:=λc h args m=>match args with
 |[t0]=>xea c h m.next t0 ⟨m.hp,m.next+1⟩ 0
 |_=>none
noncomputable def xr1:FnT:=λc h args m=>match args with
 |[t0,t1]=>xeb c h m.next t0 t1 ⟨m.hp,m.next+1⟩ 0
 |_=>none
noncomputable def xsf:FnT:=λc h args m=>match args with
 |[t0,t1,t2,t3]=>xee c h m.next t0 t1 t2 t3 ⟨m.hp,m.next+1⟩ 0
 |_=>none
noncomputable def xsg:FnT:=λc h args m=>match args with
 |[t0,t1]=>xef c h m.next t0 t1 ⟨m.hp,m.next+1⟩ 0
 |_=>none
noncomputable def xsh:FnT:=λc h args m=>match args with
 |[t0,t1]=>xei c h m.next t0 t1 ⟨m.hp,m.next+1⟩ 0
 |_=>none
noncomputable def xsi:FnT:=λc h args m=>match args with
 |[t0,t1]=>xem c h m.next t0 t1 ⟨m.hp,m.next+1⟩ 0
 |_=>none
noncomputable def xr0:FnT:=λc h args m=>match args with
 |[t0,t1,t2,t3]=>xep c h m.next t0 t1 t2 t3 ⟨m.hp,m.next+1⟩ 0
 |_=>none
noncomputable def xsj:FnT:=λc h args m=>match args with
 |[t0]=>xeq c h m.next t0 ⟨m.hp,m.next+1⟩ 0
 |_=>none
noncomputable def xsk:FnT:=λc h args m=>match args with
 |[t0]=>xer c h m.next t0 ⟨m.hp,m.next+1⟩ 0
 |_=>none
noncomputable def xsl:FnT:=λc h args m=>match args with
 |[t0,t1]=>xev c h m.next t0 t1 ⟨m.hp,m.next+1⟩ 0
 |_=>none
noncomputable def xsm:FnT:=λc h args m=>match args with
 |[t0,t1,t2,t3,t4]=>xf1 c h m.next t0 t1 t2 t3 t4 ⟨m.hp,m.next+1⟩ 0
 |_=>none
noncomputable def xsn:FnT:=λc h args m=>match args with
 |[t0,t1]=>xf5 c h m.next t0 t1 ⟨m.hp,m.next+1⟩ 0
 |_=>none
noncomputable def xa0:FnT:=λc h args m=>match args with
 |[t0,t1]=>x8g c h m.next t0 t1 ⟨m.hp,m.next+1⟩ 0
 |_=>none
noncomputable def xa1:FnT:=λc h args m=>match args with
 |[t0,t1]=>x8h c h m.next t0 t1 ⟨m.hp,m.next+1⟩ 0
 |_=>none
noncomputable def xso:FnT:=λc h args m=>match args with
 |[t0]=>xfa c h m.next t0 ⟨m.hp,m.next+1⟩ 0
 |_=>none
noncomputable def xsp:FnT:=λc h args m=>match args with
 |[t0,t1,t2,t3,t4]=>xfb c h m.next t0 t1 t2 t3 t4 ⟨m.hp,m.next+1⟩ 0
 |_=>none
noncomputable def xa4:FnT:=λc h args m=>match args with
 |[t0,t1]=>x8j c h m.next t0 t1 ⟨m.hp,m.next+1⟩ 0
 |_=>none
noncomputable def xsq:FnT:=λc h args m=>match args with
 |[t0,t1,t2,t3]=>xfe c h m.next t0 t1 t2 t3 ⟨m.hp,m.next+1⟩ 0
 |_=>none
noncomputable def xsr:FnT:=λc h args m=>match args with
 |[t0,t1,t2,t3,t4]=>xfn c h m.next t0 t1 t2 t3 t4 ⟨m.hp,m.next+1⟩ 0
 |_=>none
noncomputable def xss:FnT:=λc h args m=>match args with
 |[t0,t1,t2]=>xfq c h m.next t0 t1 t2 ⟨m.hp,m.next+1⟩ 0
 |_=>none
noncomputable def xst:FnT:=λc h args m=>match args with
 |[t0,t1,t2]=>xft c h m.next t0 t1 t2 ⟨m.hp,m.next+1⟩ 0
 |_=>none
noncomputable def xsu:FnT:=λc h args m=>match args with
 |[t0,t1,t2]=>xfw c h m.next t0 t1 t2 ⟨m.hp,m.next+1⟩ 0
 |_=>none
noncomputable def xsv:FnT:=λc h args m=>match args with
 |[t0,t1,t2]=>xfz c h m.next t0 t1 t2 ⟨m.hp,m.next+1⟩ 0
 |_=>none
noncomputable def xsw:FnT:=λc h args m=>match args with
 |[t0,t1,t2]=>xg1 c h m.next t0 t1 t2 ⟨m.hp,m.next+1⟩ 0
 |_=>none
noncomputable def xsx:FnT:=λc h args m=>match args with
 |[t0,t1,t2]=>xg6 c h m.next t0 t1 t2 ⟨m.hp,m.next+1⟩ 0
 |_=>none
noncomputable def xsy:FnT:=λc h args m=>match args with
 |[t0,t1]=>xg7 c h m.next t0 t1 ⟨m.hp,m.next+1⟩ 0
 |_=>none
noncomputable def xsz:FnT:=λc h args m=>match args with
 |[t0,t1,t2,t3]=>xgb c h m.next t0 t1 t2 t3 ⟨m.hp,m.next+1⟩ 0
 |_=>none
noncomputable def xt0:FnT:=λc h args m=>match args with
 |[t0,t1,t2,t3]=>xgh c h m.next t0 t1 t2 t3 ⟨m.hp,m.next+1⟩ 0
 |_=>none
noncomputable def xt1:FnT:=λc h args m=>match args with
 |[t0]=>xgk c h m.next t0 ⟨m.hp,m.next+1⟩ 0
 |_=>none
noncomputable def xt2:FnT:=λc h args m=>match args with
 |[t0]=>xgo c h m.next t0 ⟨m.hp,m.next+1⟩ 0
 |_=>none
noncomputable def xqu:FnT:=λc h args m=>match args with
 |[t0,t1,t2]=>xgp c h m.next t0 t1 t2 ⟨m.hp,m.next+1⟩ 0
 |_=>none
noncomputable def xt3:FnT:=λc h args m=>match args with
 |[t0]=>xgq c h m.next t0 ⟨m.hp,m.next+1⟩ 0
 |_=>none
noncomputable def xqw:FnT:=λc h args m=>match args with
 |[t0,t1]=>xgu c h m.next t0 t1 ⟨m.hp,m.next+1⟩ 0
 |_=>none
noncomputable def xqy:FnT:=λc h args m=>match args with
 |[t0,t1,t2]=>xgw c h m.next t0 t1 t2 ⟨m.hp,m.next+1⟩ 0
 |_=>none
noncomputable def xt4:FnT:=λc h args m=>match args with
 |[t0,t1]=>xgy c h m.next t0 t1 ⟨m.hp,m.next+1⟩ 0
 |_=>none
noncomputable def xqv:FnT:=λc h args m=>match args with
 |[t0,t1,t2,t3]=>xgz c h m.next t0 t1 t2 t3 ⟨m.hp,m.next+1⟩ 0
 |_=>none
noncomputable def xt5:FnT:=λc h args m=>match args with
 |[t0]=>xh0 c h m.next t0 ⟨m.hp,m.next+1⟩ 0
 |_=>none
noncomputable def xt6:FnT:=λc h args m=>match args with
 |[t0]=>xh1 c h m.next t0 ⟨m.hp,m.next+1⟩ 0
 |_=>none
noncomputable def xt7:FnT:=λc h args m=>match args with
 |[t0]=>xh2 c h m.next t0 ⟨m.hp,m.next+1⟩ 0
 |_=>none
noncomputable def xt8:FnT:=λc h args m=>match args with
 |[t0]=>xh3 c h m.next t0 ⟨m.hp,m.next+1⟩ 0
 |_=>none
noncomputable def xt9:FnT:=λc h args m=>match args with
 |[t0]=>xh4 c h m.next t0 ⟨m.hp,m.next+1⟩ 0
 |_=>none
noncomputable def xta:FnT:=λc h args m=>match args with
 |[t0]=>xh5 c h m.next t0 ⟨m.hp,m.next+1⟩ 0
 |_=>none
noncomputable def xa5:FnT:=λc h args m=>match args with
 |[t0,t1]=>x8m c h m.next t0 t1 ⟨m.hp,m.next+1⟩ 0
 |_=>none
noncomputable def xtb:FnT:=λc h args m=>match args with
 |[t0,t1,t2]=>xha c h m.next t0 t1 t2 ⟨m.hp,m.next+1⟩ 0
 |_=>none
noncomputable def xtc:FnT:=λc h args m=>match args with
 |[t0,t1]=>xhb c h m.next t0 t1 ⟨m.hp,m.next+1⟩ 0
 |_=>none
noncomputable def xtd:FnT:=λc h args m=>match args with
 |[t0,t1]=>xhc c h m.next t0 t1 ⟨m.hp,m.next+1⟩ 0
 |_=>none
noncomputable def xte:FnT:=λc h args m=>match args with
 |[t0,t1,t2]=>xhd c h m.next t0 t1 t2 ⟨m.hp,m.next+1⟩ 0
 |_=>none
noncomputable def xtf:FnT:=λc h args m=>match args with
 |[t0,t1,t2]=>xhe c h m.next t0 t1 t2 ⟨m.hp,m.next+1⟩ 0
 |_=>none
noncomputable def xa6:FnT:=λc h args m=>match args with
 |[t0,t1]=>x8p c h m.next t0 t1 ⟨m.hp,m.next+1⟩ 0
 |_=>none
noncomputable def xtg:FnT:=λc h args m=>match args with
 |[t0,t1,t2,t3,t4]=>xhg c h m.next t0 t1 t2 t3 t4 ⟨m.hp,m.next+1⟩ 0
 |_=>none
noncomputable def xth:FnT:=λc h args m=>match args with
 |[t0,t1,t2,t3]=>xhj c h m.next t0 t1 t2 t3 ⟨m.hp,m.next+1⟩ 0
 |_=>none
noncomputable def xti:FnT:=λc h args m=>match args with
 |[t0]=>xhk c h m.next t0 ⟨m.hp,m.next+1⟩ 0
 |_=>none
noncomputable def xtj:FnT:=λc h args m=>match args with
 |[t0]=>xhl c h m.next t0 ⟨m.hp,m.next+1⟩ 0
 |_=>none
noncomputable def xtk:FnT:=λc h args m=>match args with
 |[t0,t1,t2]=>xhm c h m.next t0 t1 t2 ⟨m.hp,m.next+1⟩ 0
 |_=>none
noncomputable def xtl:FnT:=λc h args m=>match args with
 |[t0,t1,t2,t3,t4]=>xhn c h m.next t0 t1 t2 t3 t4 ⟨m.hp,m.next+1⟩ 0
 |_=>none
noncomputable def xtm:FnT:=λc h args m=>match args with
 |[t0]=>xho c h m.next t0 ⟨m.hp,m.next+1⟩ 0
 |_=>none
noncomputable def xqx:FnT:=λc h args m=>match args with
 |[t0,t1]=>xhp c h m.next t0 t1 ⟨m.hp,m.next+1⟩ 0
 |_=>none
noncomputable def xtn:FnT:=λc h args m=>match args with
 |[t0,t1]=>xhq c h m.next t0 t1 ⟨m.hp,m.next+1⟩ 0
 |_=>none
noncomputable def xto:FnT:=λc h args m=>match args with
 |[t0]=>xhr c h m.next t0 ⟨m.hp,m.next+1⟩ 0
 |_=>none
noncomputable def xtp:FnT:=λc h args m=>match args with
 |[t0]=>xhs c h m.next t0 ⟨m.hp,m.next+1⟩ 0
 |_=>none
noncomputable def xtq:FnT:=λc h args m=>match args with
 |[t0]=>xht c h m.next t0 ⟨m.hp,m.next+1⟩ 0
 |_=>none
noncomputable def xtr:FnT:=λc h args m=>match args with
 |[t0]=>xhu c h m.next t0 ⟨m.hp,m.next+1⟩ 0
 |_=>none
noncomputable def xts:FnT:=λc h args m=>match args with
 |[t0,t1]=>xhx c h m.next t0 t1 ⟨m.hp,m.next+1⟩ 0
 |_=>none
noncomputable def xtt:FnT:=λc h args m=>match args with
 |[t0,t1,t2]=>xi2 c h m.next t0 t1 t2 ⟨m.hp,m.next+1⟩ 0
 |_=>none
noncomputable def xtu:FnT:=λc h args m=>match args with
 |[t0]=>xi3 c h m.next t0 ⟨m.hp,m.next+1⟩ 0
 |_=>none
noncomputable def xtv:FnT:=λc h args m=>match args with
 |[t0]=>xi4 c h m.next t0 ⟨m.hp,m.next+1⟩ 0
 |_=>none
noncomputable def xtw:FnT:=λc h args m=>match args with
 |[t0,t1,t2,t3,t4]=>xi6 c h m.next t0 t1 t2 t3 ⟨m.hp,m.next+1⟩ 0
 |_=>none
noncomputable def xtx:FnT:=λc h args m=>match args with
 |[t0,t1,t2,t3]=>xi7 c h m.next t0 t1 t2 t3 ⟨m.hp,m.next+1⟩ 0
 |_=>none
noncomputable def xqt:FnT:=λc h args m=>match args with
 |[t0,t1,t2]=>xia c h m.next t0 t1 t2 ⟨m.hp,m.next+1⟩ 0
 |_=>none
noncomputable def xty:FnT:=λc h args m=>match args with
 |[t0,t1]=>xib c h m.next t0 t1 ⟨m.hp,m.next+1⟩ 0
 |_=>none
noncomputable def xqz:FnT:=λc h args m=>match args with
 |[t0,t1]=>xic c h m.next t0 t1 ⟨m.hp,m.next+1⟩ 0
 |_=>none
noncomputable def xtz:FnT:=λc h args m=>match args with
 |[t0]=>xig c h m.next t0 ⟨m.hp,m.next+1⟩ 0
 |_=>none
noncomputable def xu0:FnT:=λc h args m=>match args with
 |[t0]=>xih c h m.next t0 ⟨m.hp,m.next+1⟩ 0
 |_=>none
noncomputable def xu1:FnT:=λc h args m=>match args with
 |[t0]=>xij c h m.next t0 ⟨m.hp,m.next+1⟩ 0
 |_=>none
end Go.Ix
