import Derived.Test.YtaoalekmhjclnaaGreatDoorFxText0
import Derived.Test.YtaoalekmhjclnaaGreatDoorFxText1
set_option linter.unusedVariables false
namespace Go.Ix
open Go.Proofs
noncomputable def xbb:FnT:=λc h args m=>match args with
 |[t0,t1]=>x8f c h m.next t0 t1 ⟨m.hp,m.next+1⟩ 0
 |_=>none
noncomputable def xv9:FnT:=λc h args m=>match args with
 |[]=>xcr c h m.next ⟨m.hp,m.next+1⟩ 0
 |_=>none
noncomputable def xbc:FnT:=λc h args m=>match args with
 |[t0]=>x8k c h m.next t0 ⟨m.hp,m.next+1⟩ 0
 |_=>none
noncomputable def xbd:FnT:=λc h args m=>match args with
 |[t0]=>x8q c h m.next t0 ⟨m.hp,m.next+1⟩ 0
 |_=>none
noncomputable def xbe:FnT:=λc h args m=>match args with
 |[t0]=>x8t c h m.next t0 ⟨m.hp,m.next+1⟩ 0
 |_=>none
noncomputable def xbf:FnT:=λc h args m=>match args with
 |[t0,t1]=>x8u c h m.next t0 t1 ⟨m.hp,m.next+1⟩ 0
 |_=>none
noncomputable def xbg:FnT:=λc h args m=>match args with
 |[t0]=>x8v c h m.next t0 ⟨m.hp,m.next+1⟩ 0
 |_=>none
noncomputable def xbh:FnT:=λc h args m=>match args with
 |[t0,t1]=>x8x c h m.next t0 t1 ⟨m.hp,m.next+1⟩ 0
 |_=>none
noncomputable def xbi:FnT:=λc h args m=>match args with
 |[t0,t1]=>x8z c h m.next t0 t1 ⟨m.hp,m.next+1⟩ 0
 |_=>none
noncomputable def xbj:FnT:=λc h args m=>match args with
 |[t0,t1]=>x91 c h m.next t0 t1 ⟨m.hp,m.next+1⟩ 0
 |_=>none
noncomputable def xbk:FnT:=λc h args m=>match args with
 |[t0,t1]=>x94 c h m.next t0 t1 ⟨m.hp,m.next+1⟩ 0
 |_=>none
noncomputable def xva:FnT:=λc h args m=>match args with
 |[t0]=>xdh c h m.next t0 ⟨m.hp,m.next+1⟩ 0
 |_=>none
noncomputable def xvb:FnT:=λc h args m=>match args with
 |[t0,t1]=>xdi c h m.next t0 t1 ⟨m.hp,m.next+1⟩ 0
 |_=>none
noncomputable def xvc:FnT:=λc h args m=>match args with
 |[t0,t1,t2]=>xdk c h m.next t0 t1 t2 ⟨m.hp,m.next+1⟩ 0
 |_=>none
noncomputable def xvd:FnT:=λc h args m=>match args with
 |[]=>xdl c h m.next ⟨m.hp,m.next+1⟩ 0
 |_=>none
noncomputable def xve:FnT:=λc h args m=>match args with
 |[]=>xdm c h m.next ⟨m.hp,m.next+1⟩ 0
 |_=>none
noncomputable def xvf:FnT:=λc h args m=>match args with
 |[t0,t1,t2]=>xdn c h m.next t0 t1 t2 ⟨m.hp,m.next+1⟩ 0
 |_=>none
noncomputable def xvg:FnT:=λc h args m=>match args with
 |[t0]=>xdo c h m.next t0 ⟨m.hp,m.next+1⟩ 0
 |_=>none
noncomputable def xvh:FnT:=λc h args m=>match args with
 |[]=>xdp c h m.next ⟨m.hp,m.next+1⟩ 0
 |_=>none
noncomputable def xbl:FnT:=λc h args m=>match args with
 |[t0,t1,t2]=>x97 c h m.next t0 t1 t2 ⟨m.hp,m.next+1⟩ 0
 |_=>none
noncomputable def xbm:FnT:=λc h args m=>match args with
 |[t0]=>x99 c h m.next t0 ⟨m.hp,m.next+1⟩ 0
 |_=>none
noncomputable def xbn:FnT:=λc h args m=>match args with
 |[t0,t1,t2]=>x9b c h m.next t0 t1 t2 ⟨m.hp,m.next+1⟩ 0
 |_=>none
noncomputable def xbo:FnT:=λc h args m=>match args with
 |[t0,t1]=>x9c c h m.next t0 t1 ⟨m.hp,m.next+1⟩ 0
 |_=>none
noncomputable def xbp:FnT:=λc h args m=>match args with
 |[t0]=>x9h c h m.next t0 ⟨m.hp,m.next+1⟩ 0
 |_=>none
noncomputable def xms:FnT:=λc h args m=>match args with
 |[t0]=>xe2 c h m.next t0 ⟨m.hp,m.next+1⟩ 0
 |_=>none
noncomputable def xbq:FnT:=λc h args m=>match args with
 |[t0,t1]=>x9i c h m.next t0 t1 ⟨m.hp,m.next+1⟩ 0
 |_=>none
noncomputable def xbr:FnT:=λc h args m=>match args with
 |[t0,t1]=>x9j c h m.next t0 t1 ⟨m.hp,m.next+1⟩ 0
 |_=>none
noncomputable def xbs:FnT:=λc h args m=>match args with
 |[t0,t1]=>x9k c h m.next t0 t1 ⟨m.hp,m.next+1⟩ 0
 |_=>none
noncomputable def xbt:FnT:=λc h args m=>match args with
 |[t0]=>x9l c h m.next t0 ⟨m.hp,m.next+1⟩ 0
 |_=>none
noncomputable def xbu:FnT:=λc h args m=>match args with
 |[t0,t1]=>x9n c h m.next t0 t1 ⟨m.hp,m.next+1⟩ 0
 |_=>none
noncomputable def xbv:FnT:=λc h args m=>match args with
 |[t0,t1]=>x9o c h m.next t0 t1 ⟨m.hp,m.next+1⟩ 0
 |_=>none
noncomputable def x5r:FnT:=λc h args m=>match args with
 |[t0,t1,t2]=>x5d c h m.next t0 t1 t2 ⟨m.hp,m.next+1⟩ 0
 |_=>none
noncomputable def xbw:FnT:=λc h args m=>match args with
 |[t0]=>x9q c h m.next t0 ⟨m.hp,m.next+1⟩ 0
 |_=>none
noncomputable def xbx:FnT:=λc h args m=>match args with
 |[t0]=>x9s c h m.next t0 ⟨m.hp,m.next+1⟩ 0
 |_=>none
noncomputable def xby:FnT:=λc h args m=>match args with
 |[t0]=>x9u c h m.next t0 ⟨m.hp,m.next+1⟩ 0
 |_=>none
noncomputable def xbz:FnT:=λc h args m=>match args with
 |[t0,t1]=>x9w c h m.next t0 t1 ⟨m.hp,m.next+1⟩ 0
 |_=>none
noncomputable def xvi:FnT:=λc h args m=>match args with
 |[t0,t1]=>xed c h m.next t0 t1 ⟨m.hp,m.next+1⟩ 0
 |_=>none
noncomputable def xvj:FnT:=λc h args m=>match args with
 |[t0]=>xee c h m.next t0 ⟨m.hp,m.next+1⟩ 0
 |_=>none
noncomputable def xvk:FnT:=λc h args m=>match args with
 |[t0]=>xef c h m.next t0 ⟨m.hp,m.next+1⟩ 0
 |_=>none
noncomputable def xvl:FnT:=λc h args m=>match args with
 |[t0]=>xeg c h m.next t0 ⟨m.hp,m.next+1⟩ 0
 |_=>none
noncomputable def xvm:FnT:=λc h args m=>match args with
 |[t0,t1]=>xei c h m.next t0 t1 ⟨m.hp,m.next+1⟩ 0
 |_=>none
noncomputable def xc0:FnT:=λc h args m=>match args with
 |[t0]=>x9y c h m.next t0 ⟨m.hp,m.next+1⟩ 0
 |_=>none
noncomputable def xmt:FnT:=λc h args m=>match args with
 |[t0,t1]=>xem c h m.next t0 t1 ⟨m.hp,m.next+1⟩ 0
 |_=>none
noncomputable def xvn:FnT:=λc h args m=>match args with
 |[t0,t1]=>xeo c h m.next t0 t1 ⟨m.hp,m.next+1⟩ 0
 |_=>none
noncomputable def xvo:FnT:=λc h args m=>match args with
 |[t0,t1,t2]=>xep c h m.next t0 t1 t2 ⟨m.hp,m.next+1⟩ 0
 |_=>none
noncomputable def xvp:FnT:=λc h args m=>match args with
 |[t0]=>xeq c h m.next t0 ⟨m.hp,m.next+1⟩ 0
 |_=>none
noncomputable def xvq:FnT:=λc h args m=>match args with
 |[t0,t1,t2]=>xer c h m.next t0 t1 t2 ⟨m.hp,m.next+1⟩ 0
 |_=>none
noncomputable def xvr:FnT:=λc h args m=>match args with
 |[t0]=>xet c h m.next t0 ⟨m.hp,m.next+1⟩ 0
 |_=>none
noncomputable def xvs:FnT:=λc h args m=>match args with
 |[t0,t1]=>xev c h m.next t0 t1 ⟨m.hp,m.next+1⟩ 0
 |_=>none
noncomputable def xvt:FnT:=λc h args m=>match args with
 |[t0,t1]=>xex c h m.next t0 t1 ⟨m.hp,m.next+1⟩ 0
 |_=>none
noncomputable def xvu:FnT:=λc h args m=>match args with
 |[t0]=>xez c h m.next t0 ⟨m.hp,m.next+1⟩ 0
 |_=>none
noncomputable def xvv:FnT:=λc h args m=>match args with
 |[t0]=>xf1 c h m.next t0 ⟨m.hp,m.next+1⟩ 0
 |_=>none
noncomputable def xc1:FnT:=λc h args m=>match args with
 |[t0]=>xa2 c h m.next t0 ⟨m.hp,m.next+1⟩ 0
 |_=>none
noncomputable def xc2:FnT:=λc h args m=>match args with
 |[t0]=>xa3 c h m.next t0 ⟨m.hp,m.next+1⟩ 0
 |_=>none
noncomputable def xvw:FnT:=λc h args m=>match args with
 |[t0]=>xf4 c h m.next t0 ⟨m.hp,m.next+1⟩ 0
 |_=>none
noncomputable def xc3:FnT:=λc h args m=>match args with
 |[t0,t1]=>xa5 c h m.next t0 t1 ⟨m.hp,m.next+1⟩ 0
 |_=>none
noncomputable def xc4:FnT:=λc h args m=>match args with
 |[t0,t1]=>xa6 c h m.next t0 t1 ⟨m.hp,m.next+1⟩ 0
 |_=>none
noncomputable def xc5:FnT:=λc h args m=>match args with
 |[t0,t1]=>xa7 c h m.next t0 t1 ⟨m.hp,m.next+1⟩ 0
 |_=>none
noncomputable def xc6:FnT:=λc h args m=>match args with
 |[t0,t1]=>xa9 c h m.next t0 t1 ⟨m.hp,m.next+1⟩ 0
 |_=>none
noncomputable def xc7:FnT:=λc h args m=>match args with
 |[t0,t1]=>xaa c h m.next t0 t1 ⟨m.hp,m.next+1⟩ 0
 |_=>none
noncomputable def xc8:FnT:=λc h args m=>match args with
 |[t0,t1,t2]=>xac c h m.next t0 t1 t2 ⟨m.hp,m.next+1⟩ 0
 |_=>none
noncomputable def xc9:FnT:=λc h args m=>match args with
 |[t0,t1]=>xad c h m.next t0 t1 ⟨m.hp,m.next+1⟩ 0
 |_=>none
noncomputable def xca:FnT:=λc h args m=>match args with
 |[t0]=>xaj c h m.next t0 ⟨m.hp,m.next+1⟩ 0
 |_=>none
noncomputable def xcb:FnT:=λc h args m=>match args with
 |[t0]=>xak c h m.next t0 ⟨m.hp,m.next+1⟩ 0
 |_=>none
noncomputable def xcc:FnT:=λc h args m=>match args with
 |[t0,t1,t2]=>xal c h m.next t0 t1 t2 ⟨m.hp,m.next+1⟩ 0
 |_=>none
noncomputable def xvx:FnT:=λc h args m=>match args with
 |[t0,t1,t2]=>xff c h m.next t0 t1 t2 ⟨m.hp,m.next+1⟩ 0
 |_=>none
noncomputable def xvy:FnT:=λc h args m=>match args with
 |[t0,t1]=>xfg c h m.next t0 t1 ⟨m.hp,m.next+1⟩ 0
 |_=>none
noncomputable def xvz:FnT:=λc h args m=>match args with
 |[t0,t1]=>xfh c h m.next t0 t1 ⟨m.hp,m.next+1⟩ 0
 |_=>none
noncomputable def xw0:FnT:=λc h args m=>match args with
 |[t0]=>xfi c h m.next t0 ⟨m.hp,m.next+1⟩ 0
 |_=>none
noncomputable def xw1:FnT:=λc h args m=>match args with
 |[t0,t1]=>xfk c h m.next t0 t1 ⟨m.hp,m.next+1⟩ 0
 |_=>none
noncomputable def xw2:FnT:=λc h args m=>match args with
 |[t0,t1]=>xfl c h m.next t0 t1 ⟨m.hp,m.next+1⟩ 0
 |_=>none
noncomputable def xw3:FnT:=λc h args m=>match args with
 |[t0,t1]=>xfn c h m.next t0 t1 ⟨m.hp,m.next+1⟩ 0
 |_=>none
noncomputable def xw4:FnT:=λc h args m=>match args with
 |[t0,t1]=>xfo c h m.next t0 t1 ⟨m.hp,m.next+1⟩ 0
 |_=>none
noncomputable def xw5:FnT:=λc h args m=>match args with
 |[t0,t1]=>xfp c h m.next t0 t1 ⟨m.hp,m.next+1⟩ 0
 |_=>none
noncomputable def xw6:FnT:=λc h args m=>match args with
 |[t0,t1]=>xfr c h m.next t0 t1 ⟨m.hp,m.next+1⟩ 0
 |_=>none
noncomputable def xcd:FnT:=λc h args m=>match args with
 |[t0,t1,t2]=>xap c h m.next t0 t1 t2 ⟨m.hp,m.next+1⟩ 0
 |_=>none
noncomputable def xce:FnT:=λc h args m=>match args with
 |[t0,t1]=>xaq c h m.next t0 t1 ⟨m.hp,m.next+1⟩ 0
 |_=>none
noncomputable def xw7:FnT:=λc h args m=>match args with
 |[t0,t1]=>xfu c h m.next t0 t1 ⟨m.hp,m.next+1⟩ 0
 |_=>none
noncomputable def xw8:FnT:=λc h args m=>match args with
 |[t0,t1]=>xfv c h m.next t0 t1 ⟨m.hp,m.next+1⟩ 0
 |_=>none
noncomputable def xcf:FnT:=λc h args m=>match args with
 |[t0]=>xar c h m.next t0 ⟨m.hp,m.next+1⟩ 0
 |_=>none
noncomputable def xcg:FnT:=λc h args m=>match args with
 |[t0,t1]=>x5i c h m.next t0 t1 ⟨m.hp,m.next+1⟩ 0
 |_=>none
noncomputable def xch:FnT:=λc h args m=>match args with
 |[t0,t1,t2]=>xat c h m.next t0 t1 t2 ⟨m.hp,m.next+1⟩ 0
 |_=>none
noncomputable def xci:FnT:=λc h args m=>match args with
 |[t0,t1,t2,t3]=>xau c h m.next t0 t1 t2 t3 ⟨m.hp,m.next+1⟩ 0
 |_=>none
noncomputable def xcj:FnT:=λc h args m=>match args with
 |[t0]=>xav c h m.next t0 ⟨m.hp,m.next+1⟩ 0
 |_=>none
noncomputable def xw9:FnT:=λc h args m=>match args with
 |[t0,t1]=>xg7 c h m.next t0 t1 ⟨m.hp,m.next+1⟩ 0
 |_=>none
noncomputable def xwa:FnT:=λc h args m=>match args with
 |[t0,t1]=>xg8 c h m.next t0 t1 ⟨m.hp,m.next+1⟩ 0
 |_=>none
noncomputable def xwb:FnT:=λc h args m=>match args with
 |[t0,t1]=>xga c h m.next t0 t1 ⟨m.hp,m.next+1⟩ 0
 |_=>none
noncomputable def xwc:FnT:=λc h args m=>match args with
 |[t0,t1]=>xgf c h m.next t0 t1 ⟨m.hp,m.next+1⟩ 0
 |_=>none
noncomputable def xwd:FnT:=λc h args m=>match args with
 |[t0,t1]=>xgg c h m.next t0 t1 ⟨m.hp,m.next+1⟩ 0
 |_=>none
noncomputable def xwe:FnT:=λc h args m=>match args with
 |[t0,t1,t2]=>xgh c h m.next t0 t1 t2 ⟨m.hp,m.next+1⟩ 0
 |_=>none
noncomputable def xwf:FnT:=λc h args m=>match args with
 |[t0,t1]=>xgj c h m.next t0 t1 ⟨m.hp,m.next+1⟩ 0
 |_=>none
noncomputable def xwg:FnT:=λc h args m=>match args with
 |[t0,t1]=>xgk c h m.next t0 t1 ⟨m.hp,m.next+1⟩ 0
 |_=>none
noncomputable def xwh:FnT:=λc h args m=>match args with
 |[t0]=>xgl c h m.next t0 ⟨m.hp,m.next+1⟩ 0
 |_=>none
noncomputable def xwi:FnT:=λc h args m=>match args with
 |[t0,t1]=>xgm c h m.next t0 t1 ⟨m.hp,m.next+1⟩ 0
 |_=>none
noncomputable def xwj:FnT:=λc h args m=>match args with
 |[t0]=>xgn c h m.next t0 ⟨m.hp,m.next+1⟩ 0
 |_=>none
noncomputable def xwk:FnT:=λc h args m=>match args with
 |[t0,t1]=>xgq c h m.next t0 t1 ⟨m.hp,m.next+1⟩ 0
 |_=>none
noncomputable def xwl:FnT:=λc h args m=>match args with
 |[t0,t1,t2]=>xgr c h m.next t0 t1 t2 ⟨m.hp,m.next+1⟩ 0
 |_=>none
noncomputable def xwm:FnT:=λc h args m=>match args with
 |[t0]=>xgs c h m.next t0 ⟨m.hp,m.next+1⟩ 0
 |_=>none
noncomputable def xwn:FnT:=λc h args m=>match args with
 |[t0,t1]=>xgt c h m.next t0 t1 ⟨m.hp,m.next+1⟩ 0
 |_=>none
noncomputable def xck:FnT:=λc h args m=>match args with
 |[t0,t1,t2]=>xax c h m.next t0 t1 t2 ⟨m.hp,m.next+1⟩ 0
 |_=>none
noncomputable def xwo:FnT:=λc h args m=>match args with
 |[t0,t1]=>xgu c h m.next t0 t1 ⟨m.hp,m.next+1⟩ 0
 |_=>none
noncomputable def xcl:FnT:=λc h args m=>match args with
 |[t0,t1,t2]=>xay c h m.next t0 t1 t2 ⟨m.hp,m.next+1⟩ 0
 |_=>none
noncomputable def xwp:FnT:=λc h args m=>match args with
 |[t0]=>xgv c h m.next t0 ⟨m.hp,m.next+1⟩ 0
 |_=>none
noncomputable def xwq:FnT:=λc h args m=>match args with
 |[t0,t1,t2]=>xgw c h m.next t0 t1 t2 ⟨m.hp,m.next+1⟩ 0
 |_=>none
noncomputable def xwr:FnT:=λc h args m=>match args with
 |[t0,t1]=>xgy c h m.next t0 t1 ⟨m.hp,m.next+1⟩ 0
 |_=>none
noncomputable def xws:FnT:=λc h args m=>match args with
 |[t0,t1]=>xh1 c h m.next t0 t1 ⟨m.hp,m.next+1⟩ 0
 |_=>none
noncomputable def xwt:FnT:=λc h args m=>match args with
 |[t0,t1]=>xh4 c h m.next t0 t1 ⟨m.hp,m.next+1⟩ 0
 |_=>none
noncomputable def xwu:FnT:=λc h args m=>match args with
 |[t0,t1]=>xh5 c h m.next t0 t1 ⟨m.hp,m.next+1⟩ 0
 |_=>none
noncomputable def xwv:FnT:=λc h args m=>match args with
 |[t0]=>xh6 c h m.next t0 ⟨m.hp,m.next+1⟩ 0
 |_=>none
noncomputable def xww:FnT:=λc h args m=>match args with
 |[t0,t1]=>xh8 c h m.next t0 t1 ⟨m.hp,m.next+1⟩ 0
 |_=>none
noncomputable def xwx:FnT:=λc h args m=>match args with
 |[t0]=>xh9 c h m.next t0 ⟨m.hp,m.next+1⟩ 0
 |_=>none
noncomputable def xwy:FnT:=λc h args m=>match args with
 |[t0]=>xha c h m.next t0 ⟨m.hp,m.next+1⟩ 0
 |_=>none
noncomputable def xwz:FnT:=λc h args m=>match args with
 |[t0]=>xhb c h m.next t0 ⟨m.hp,m.next+1⟩ 0
 |_=>none
noncomputable def xx0:FnT:=λc h args m=>match args with
 |[t0]=>xhc c h m.next t0 ⟨m.hp,m.next+1⟩ 0
 |_=>none
noncomputable def xx1:FnT:=λc h args m=>match args with
 |[t0]=>xhd c h m.next t0 ⟨m.hp,m.next+1⟩ 0
 |_=>none
noncomputable def xx2:FnT:=λc h args m=>match args with
 |[t0]=>xhe c h m.next t0 ⟨m.hp,m.next+1⟩ 0
 |_=>none
noncomputable def xx3:FnT:=λc h args m=>match args with
 |[t0,t1]=>xhg c h m.next t0 t1 ⟨m.hp,m.next+1⟩ 0
 |_=>none
noncomputable def xx4:FnT:=λc h args m=>match args with
 |[t0]=>xhh c h m.next t0 ⟨m.hp,m.next+1⟩ 0
 |_=>none
noncomputable def xx5:FnT:=λc h args m=>match args with
 |[t0,t1]=>xhi c h m.next t0 t1 ⟨m.hp,m.next+1⟩ 0
 |_=>none
noncomputable def xx6:FnT:=λc h args m=>match args with
 |[t0,t1]=>xhj c h m.next t0 t1 ⟨m.hp,m.next+1⟩ 0
 |_=>none
noncomputable def xx7:FnT:=λc h args m=>match args with
 |[t0,t1]=>xhm c h m.next t0 t1 ⟨m.hp,m.next+1⟩ 0
 |_=>none
noncomputable def xcm:FnT:=λc h args m=>match args with
 |[t0]=>xb1 c h m.next t0 ⟨m.hp,m.next+1⟩ 0
 |_=>none
noncomputable def xx8:FnT:=λc h args m=>match args with
 |[t0]=>xhn c h m.next t0 ⟨m.hp,m.next+1⟩ 0
 |_=>none
noncomputable def xx9:FnT:=λc h args m=>match args with
 |[t0,t1]=>xho c h m.next t0 t1 ⟨m.hp,m.next+1⟩ 0
 |_=>none
noncomputable def xxa:FnT:=λc h args m=>match args with
 |[t0]=>xhp c h m.next t0 ⟨m.hp,m.next+1⟩ 0
 |_=>none
noncomputable def xxb:FnT:=λc h args m=>match args with
 |[t0,t1]=>xhq c h m.next t0 t1 ⟨m.hp,m.next+1⟩ 0
 |_=>none
noncomputable def xxc:FnT:=λc h args m=>match args with
 |[t0]=>xhr c h m.next t0 ⟨m.hp,m.next+1⟩ 0
 |_=>none
noncomputable def xxd:FnT:=λc h args m=>match args with
 |[t0]=>xhv c h m.next t0 ⟨m.hp,m.next+1⟩ 0
 |_=>none
noncomputable def xxe:FnT:=λc h args m=>match args with
 |[t0,t1,t2,t3,t4,t5,t6]=>xhx c h m.next t0 t1 t2 t3 t4 t5 t6 ⟨m.hp,m.next+1⟩ 0
 |_=>none
noncomputable def xxf:FnT:=λc h args m=>match args with
 |[t0,t1,t2]=>xhy c h m.next t0 t1 t2 ⟨m.hp,m.next+1⟩ 0
 |_=>none
noncomputable def xxg:FnT:=λc h args m=>match args with
 |[t0]=>xi0 c h m.next t0 ⟨m.hp,m.next+1⟩ 0
 |_=>none
noncomputable def xxh:FnT:=λc h args m=>match args with
 |[t0,t1]=>xi3 c h m.next t0 t1 ⟨m.hp,m.next+1⟩ 0
 |_=>none
noncomputable def xxi:FnT:=λc h args m=>match args with
 |[t0,t1]=>xi4 c h m.next t0 t1 ⟨m.hp,m.next+1⟩ 0
 |_=>none
noncomputable def xxj:FnT:=λc h args m=>match args with
 |[t0,t1]=>xi5 c h m.next t0 t1 ⟨m.hp,m.next+1⟩ 0
 |_=>none
noncomputable def xxk:FnT:=λc h args m=>match args with
 |[t0,t1,t2,t3]=>xi9 c h m.next t0 t1 t2 t3 ⟨m.hp,m.next+1⟩ 0
 |_=>none
noncomputable def xxl:FnT:=λc h args m=>match args with
 |[t0,t1]=>xib c h m.next t0 t1 ⟨m.hp,m.next+1⟩ 0
 |_=>none
noncomputable def xxm:FnT:=λc h args m=>match args with
 |[t0,t1]=>xic c h m.next t0 t1 ⟨m.hp,m.next+1⟩ 0
 |_=>none
noncomputable def xxn:FnT:=λc h args m=>match args with
 |[t0]=>xid c h m.next t0 ⟨m.hp,m.next+1⟩ 0
 |_=>none
noncomputable def xxo:FnT:=λc h args m=>match args with
 |[t0,t1]=>xig c h m.next t0 t1 ⟨m.hp,m.next+1⟩ 0
 |_=>none
noncomputable def xxp:FnT:=λc h args m=>match args with
 |[t0]=>xii c h m.next t0 ⟨m.hp,m.next+1⟩ 0
 |_=>none
noncomputable def xv8:FnT:=λc h args m=>match args with
 |[t0,t1]=>xik c h m.next t0 t1 ⟨m.hp,m.next+1⟩ 0
 |_=>none
noncomputable def xxq:FnT:=λc h args m=>match args with
 |[t0,t1]=>xil c h m.next t0 t1 ⟨m.hp,m.next+1⟩ 0
 |_=>none
noncomputable def xxr:FnT:=λc h args m=>match args with
 |[t0,t1,t2]=>xim c h m.next t0 t1 t2 ⟨m.hp,m.next+1⟩ 0
 |_=>none
noncomputable def xxs:FnT:=λc h args m=>match args with
 |[t0,t1]=>xin c h m.next t0 t1 ⟨m.hp,m.next+1⟩ 0
 |_=>none
noncomputable def xxt:FnT:=λc h args m=>match args with
 |[t0]=>xio c h m.next t0 ⟨m.hp,m.next+1⟩ 0
 |_=>none
noncomputable def xxu:FnT:=λc h args m=>match args with
 |[t0,t1,t2,t3]=>xir c h m.next t0 t1 t2 t3 ⟨m.hp,m.next+1⟩ 0
 |_=>none
noncomputable def xxv:FnT:=λc h args m=>match args with
 |[t0,t1]=>xis c h m.next t0 t1 ⟨m.hp,m.next+1⟩ 0
 |_=>none
noncomputable def xxw:FnT:=λc h args m=>match args with
 |[t0]=>xiw c h m.next t0 ⟨m.hp,m.next+1⟩ 0
 |_=>none
noncomputable def xxx:FnT:=λc h args m=>match args with
 |[t0,t1,t2,t3,t4]=>xix c h m.next t0 t1 t2 t3 t4 ⟨m.hp,m.next+1⟩ 0
 |_=>none
noncomputable def xxy:FnT:=λc h args m=>match args with
 |[t0]=>xiy c h m.next t0 ⟨m.hp,m.next+1⟩ 0
 |_=>none
noncomputable def xxz:FnT:=λc h args m=>match args with
 |[t0,t1]=>xiz c h m.next t0 t1 ⟨m.hp,m.next+1⟩ 0
 |_=>none
noncomputable def xy0:FnT:=λc h args m=>match args with
 |[t0,t1]=>xj3 c h m.next t0 t1 ⟨m.hp,m.next+1⟩ 0
 |_=>none
noncomputable def xy1:FnT:=λc h args m=>match args with
 |[t0,t1]=>xj5 c h m.next t0 t1 ⟨m.hp,m.next+1⟩ 0
 |_=>none
noncomputable def xy2:FnT:=λc h args m=>match args with
 |[t0]=>xj9 c h m.next t0 ⟨m.hp,m.next+1⟩ 0
 |_=>none
noncomputable def xy3:FnT:=λc h args m=>match args with
 |[t0]=>xjb c h m.next t0 ⟨m.hp,m.next+1⟩ 0
 |_=>none
noncomputable def xy4:FnT:=λc h args m=>match args with
 |[t0,t1,t2]=>xjg c h m.next t0 t1 t2 ⟨m.hp,m.next+1⟩ 0
 |_=>none
noncomputable def xy5:FnT:=λc h args m=>match args with
 |[t0]=>xjh c h m.next t0 ⟨m.hp,m.next+1⟩ 0
 |_=>none
noncomputable def xy6:FnT:=λc h args m=>match args with
 |[t0,t1,t2,t3]=>xjm c h m.next t0 t1 t2 t3 ⟨m.hp,m.next+1⟩ 0
 |_=>none
noncomputable def xy7:FnT:=λc h args m=>match args with
 |[t0]=>xjn c h m.next t0 ⟨m.hp,m.next+1⟩ 0
 |_=>none
noncomputable def xy8:FnT:=λc h args m=>match args with
 |[t0,t1,t2]=>xjq c h m.next t0 t1 t2 ⟨m.hp,m.next+1⟩ 0
 |_=>none
noncomputable def xy9:FnT:=λc h args m=>match args with
 |[t0,t1]=>xjr c h m.next t0 t1 ⟨m.hp,m.next+1⟩ 0
 |_=>none
noncomputable def xya:FnT:=λc h args m=>match args with
 |[t0,t1]=>xjs c h m.next t0 t1 ⟨m.hp,m.next+1⟩ 0
 |_=>none
noncomputable def xyb:FnT:=λc h args m=>match args with
 |[t0,t1,t2]=>xjt c h m.next t0 t1 t2 ⟨m.hp,m.next+1⟩ 0
 |_=>none
noncomputable def xyc:FnT:=λc h args m=>match args with
 |[t0,t1,t2]=>xju c h m.next t0 t1 t2 ⟨m.hp,m.next+1⟩ 0
 |_=>none
noncomputable def xyd:FnT:=λc h args m=>match args with
 |[t0,t1]=>xjw c h m.next t0 t1 ⟨m.hp,m.next+1⟩ 0
 |_=>none
noncomputable def xye:FnT:=λc h args m=>match args with
 |[t0]=>xjx c h m.next t0 ⟨m.hp,m.next+1⟩ 0
 |_=>none
noncomputable def xyf:FnT:=λc h args m=>match args with
 |[t0]=>xjy c h m.next t0 ⟨m.hp,m.next+1⟩ 0
 |_=>none
noncomputable def xyg:FnT:=λc h args m=>match args with
 |[t0]=>xk2 c h m.next t0 ⟨m.hp,m.next+1⟩ 0
 |_=>none
noncomputable def xyh:FnT:=λc h args m=>match args with
 |[t0,t1]=>xk3 c h m.next t0 t1 ⟨m.hp,m.next+1⟩ 0
 |_=>none
noncomputable def xyi:FnT:=λc h args m=>match args with
 |[t0,t1]=>xk4 c h m.next t0 t1 ⟨m.hp,m.next+1⟩ 0
 |_=>none
noncomputable def xyj:FnT:=λc h args m=>match args with
 |[t0,t1,t2,t3]=>xk7 c h m.next t0 t1 t2 t3 ⟨m.hp,m.next+1⟩ 0
 |_=>none
noncomputable def xyk:FnT:=λc h args m=>match args with
 |[t0,t1,t2,t3,t4]=>xkg c h m.next t0 t1 t2 t3 t4 ⟨m.hp,m.next+1⟩ 0
 |_=>none
noncomputable def xyl:FnT:=λc h args m=>match args with
 |[t0,t1,t2]=>xkj c h m.next t0 t1 t2 ⟨m.hp,m.next+1⟩ 0
 |_=>none
noncomputable def xym:FnT:=λc h args m=>match args with
 |[t0,t1,t2]=>xkm c h m.next t0 t1 t2 ⟨m.hp,m.next+1⟩ 0
 |_=>none
noncomputable def xyn:FnT:=λc h args m=>match args with
 |[t0,t1,t2]=>xkp c h m.next t0 t1 t2 ⟨m.hp,m.next+1⟩ 0
 |_=>none
noncomputable def xyo:FnT:=λc h args m=>match args with
 |[t0,t1,t2]=>xks c h m.next t0 t1 t2 ⟨m.hp,m.next+1⟩ 0
 |_=>none
noncomputable def xyp:FnT:=λc h args m=>match args with
 |[t0,t1,t2]=>xku c h m.next t0 t1 t2 ⟨m.hp,m.next+1⟩ 0
 |_=>none
noncomputable def xyq:FnT:=λc h args m=>match args with
 |[t0,t1,t2]=>xkz c h m.next t0 t1 t2 ⟨m.hp,m.next+1⟩ 0
 |_=>none
noncomputable def xyr:FnT:=λc h args m=>match args with
 |[t0,t1]=>xl0 c h m.next t0 t1 ⟨m.hp,m.next+1⟩ 0
 |_=>none
noncomputable def xys:FnT:=λc h args m=>match args with
 |[t0,t1,t2,t3]=>xl4 c h m.next t0 t1 t2 t3 ⟨m.hp,m.next+1⟩ 0
 |_=>none
noncomputable def xyt:FnT:=λc h args m=>match args with
 |[t0,t1,t2,t3]=>xla c h m.next t0 t1 t2 t3 ⟨m.hp,m.next+1⟩ 0
 |_=>none
noncomputable def xyu:FnT:=λc h args m=>match args with
 |[t0]=>xld c h m.next t0 ⟨m.hp,m.next+1⟩ 0
 |_=>none
noncomputable def xyv:FnT:=λc h args m=>match args with
 |[t0]=>xlh c h m.next t0 ⟨m.hp,m.next+1⟩ 0
 |_=>none
noncomputable def xyw:FnT:=λc h args m=>match args with
 |[t0,t1,t2]=>xlm c h m.next t0 t1 t2 ⟨m.hp,m.next+1⟩ 0
 |_=>none
noncomputable def xyx:FnT:=λc h args m=>match args with
 |[t0]=>xln c h m.next t0 ⟨m.hp,m.next+1⟩ 0
 |_=>none
noncomputable def xyy:FnT:=λc h args m=>match args with
 |[t0]=>xlo c h m.next t0 ⟨m.hp,m.next+1⟩ 0
 |_=>none
noncomputable def xyz:FnT:=λc h args m=>match args with
 |[t0]=>xlp c h m.next t0 ⟨m.hp,m.next+1⟩ 0
 |_=>none
noncomputable def xz0:FnT:=λc h args m=>match args with
 |[t0]=>xlq c h m.next t0 ⟨m.hp,m.next+1⟩ 0
 |_=>none
noncomputable def xz1:FnT:=λc h args m=>match args with
 |[t0,t1]=>xlu c h m.next t0 t1 ⟨m.hp,m.next+1⟩ 0
 |_=>none
noncomputable def xz2:FnT:=λc h args m=>match args with
 |[t0,t1,t2,t3,t4]=>xm0 c h m.next t0 t1 t2 t3 t4 ⟨m.hp,m.next+1⟩ 0
 |_=>none
noncomputable def xz3:FnT:=λc h args m=>match args with
 |[t0]=>xm1 c h m.next t0 ⟨m.hp,m.next+1⟩ 0
 |_=>none
noncomputable def xz4:FnT:=λc h args m=>match args with
 |[t0,t1]=>xm3 c h m.next t0 t1 ⟨m.hp,m.next+1⟩ 0
 |_=>none
noncomputable def xz5:FnT:=λc h args m=>match args with
 |[t0,t1,t2,t3,t4]=>xm5 c h m.next t0 t1 t2 t3 t4 ⟨m.hp,m.next+1⟩ 0
 |_=>none
noncomputable def xz6:FnT:=λc h args m=>match args with
 |[t0,t1,t2,t3]=>xm8 c h m.next t0 t1 t2 t3 ⟨m.hp,m.next+1⟩ 0
 |_=>none
noncomputable def xz7:FnT:=λc h args m=>match args with
 |[t0]=>xm9 c h m.next t0 ⟨m.hp,m.next+1⟩ 0
 |_=>none
noncomputable def xz8:FnT:=λc h args m=>match args with
 |[t0]=>xma c h m.next t0 ⟨m.hp,m.next+1⟩ 0
 |_=>none
noncomputable def xz9:FnT:=λc h args m=>match args with
 |[t0,t1,t2]=>xmb c h m.next t0 t1 t2 ⟨m.hp,m.next+1⟩ 0
 |_=>none
noncomputable def xza:FnT:=λc h args m=>match args with
 |[t0,t1,t2,t3,t4]=>xmc c h m.next t0 t1 t2 t3 t4 ⟨m.hp,m.next+1⟩ 0
 |_=>none
noncomputable def xzb:FnT:=λc h args m=>match args with
 |[t0]=>xmd c h m.next t0 ⟨m.hp,m.next+1⟩ 0
 |_=>none
noncomputable def xzc:FnT:=λc h args m=>match args with
 |[t0]=>xme c h m.next t0 ⟨m.hp,m.next+1⟩ 0
 |_=>none
noncomputable def xzd:FnT:=λc h args m=>match args with
 |[t0]=>xmg c h m.next t0 ⟨m.hp,m.next+1⟩ 0
 |_=>none
noncomputable def xze:FnT:=λc h args m=>match args with
 |[t0]=>xmh c h m.next t0 ⟨m.hp,m.next+1⟩ 0
 |_=>none
noncomputable def xzf:FnT:=λc h args m=>match args with
 |[t0]=>xmi c h m.next t0 ⟨m.hp,m.next+1⟩ 0
 |_=>none
noncomputable def xzg:FnT:=λc h args m=>match args with
 |[t0]=>xmj c h m.next t0 ⟨m.hp,m.next+1⟩ 0
 |_=>none
noncomputable def xzh:FnT:=λc h args m=>match args with
 |[t0]=>xmk c h m.next t0 ⟨m.hp,m.next+1⟩ 0
 |_=>none
noncomputable def xzi:FnT:=λc h args m=>match args with
 |[t0,t1,t2,t3,t4]=>xmm c h m.next t0 t1 t2 t3 ⟨m.hp,m.next+1⟩ 0
 |_=>none
noncomputable def xzj:FnT:=λc h args m=>match args with
 |[t0,t1,t2,t3]=>xmn c h m.next t0 t1 t2 t3 ⟨m.hp,m.next+1⟩ 0
 |_=>none
noncomputable def xzk:FnT:=λc h args m=>match args with
 |[t0]=>xmo c h m.next t0 ⟨m.hp,m.next+1⟩ 0
 |_=>none
noncomputable def xzl:FnT:=λc h args m=>match args with
 |[t0]=>xmp c h m.next t0 ⟨m.hp,m.next+1⟩ 0
 |_=>none
end Go.Ix
