import Derived.Test.YtaoalekmhjclnaaGreatDoorFxText0
import Derived.Test.YtaoalekmhjclnaaGreatDoorFxText1
set_option linter.unusedVariables false
namespace Go.Ix
open Go.Proofs
noncomputable def xae:FnT:=λc h args m=>match args with
 |[t0,t1]=>x7z c h m.next t0 t1 ⟨m.hp,m.next+1⟩ 0
 |_=>none
noncomputable def xuu:FnT:=λc h args m=>match args with
 |[]=>xb9 c h m.next ⟨m.hp,m.next+1⟩ 0
 |_=>none
noncomputable def xuv:FnT:=λc h args m=>match args with
 |[t0]=>xbf c h m.next t0 ⟨m.hp,m.next+1⟩ 0
 |_=>none
noncomputable def xuw:FnT:=λc h args m=>match args with
 |[t0,t1]=>xbh c h m.next t0 t1 ⟨m.hp,m.next+1⟩ 0
 |_=>none
noncomputable def xaf:FnT:=λc h args m=>match args with
 |[t0]=>x85 c h m.next t0 ⟨m.hp,m.next+1⟩ 0
 |_=>none
noncomputable def xag:FnT:=λc h args m=>match args with
 |[t0]=>x89 c h m.next t0 ⟨m.hp,m.next+1⟩ 0
 |_=>none
noncomputable def xah:FnT:=λc h args m=>match args with
 |[t0]=>x8a c h m.next t0 ⟨m.hp,m.next+1⟩ 0
 |_=>none
noncomputable def xai:FnT:=λc h args m=>match args with
 |[t0,t1]=>x8c c h m.next t0 t1 ⟨m.hp,m.next+1⟩ 0
 |_=>none
noncomputable def x4u:FnT:=λc h args m=>match args with
 |[t0]=>x4b c h m.next t0 ⟨m.hp,m.next+1⟩ 0
 |_=>none
noncomputable def x39:FnT:=λc h args m=>match args with
 |[t0,t1]=>x2q c h m.next t0 t1 ⟨m.hp,m.next+1⟩ 0
 |_=>none
noncomputable def xaj:FnT:=λc h args m=>match args with
 |[t0]=>x8m c h m.next t0 ⟨m.hp,m.next+1⟩ 0
 |_=>none
noncomputable def xak:FnT:=λc h args m=>match args with
 |[t0,t1]=>x8o c h m.next t0 t1 ⟨m.hp,m.next+1⟩ 0
 |_=>none
noncomputable def xal:FnT:=λc h args m=>match args with
 |[t0,t1]=>x8r c h m.next t0 t1 ⟨m.hp,m.next+1⟩ 0
 |_=>none
noncomputable def xam:FnT:=λc h args m=>match args with
 |[t0,t1]=>x8t c h m.next t0 t1 ⟨m.hp,m.next+1⟩ 0
 |_=>none
noncomputable def xux:FnT:=λc h args m=>match args with
 |[t0,t1,t2]=>xbz c h m.next t0 t1 t2 ⟨m.hp,m.next+1⟩ 0
 |_=>none
noncomputable def xuy:FnT:=λc h args m=>match args with
 |[]=>xc0 c h m.next ⟨m.hp,m.next+1⟩ 0
 |_=>none
noncomputable def xuz:FnT:=λc h args m=>match args with
 |[]=>xc1 c h m.next ⟨m.hp,m.next+1⟩ 0
 |_=>none
noncomputable def xv0:FnT:=λc h args m=>match args with
 |[t0,t1,t2]=>xc2 c h m.next t0 t1 t2 ⟨m.hp,m.next+1⟩ 0
 |_=>none
noncomputable def xv1:FnT:=λc h args m=>match args with
 |[t0]=>xc3 c h m.next t0 ⟨m.hp,m.next+1⟩ 0
 |_=>none
noncomputable def xv2:FnT:=λc h args m=>match args with
 |[]=>xc4 c h m.next ⟨m.hp,m.next+1⟩ 0
 |_=>none
noncomputable def xan:FnT:=λc h args m=>match args with
 |[t0,t1,t2]=>x8u c h m.next t0 t1 t2 ⟨m.hp,m.next+1⟩ 0
 |_=>none
noncomputable def xv3:FnT:=λc h args m=>match args with
 |[t0]=>xc6 c h m.next t0 ⟨m.hp,m.next+1⟩ 0
 |_=>none
noncomputable def xao:FnT:=λc h args m=>match args with
 |[t0,t1,t2]=>x8w c h m.next t0 t1 t2 ⟨m.hp,m.next+1⟩ 0
 |_=>none
noncomputable def xv4:FnT:=λc h args m=>match args with
 |[t0,t1]=>xc9 c h m.next t0 t1 ⟨m.hp,m.next+1⟩ 0
 |_=>none
noncomputable def xv5:FnT:=λc h args m=>match args with
 |[t0]=>xcd c h m.next t0 ⟨m.hp,m.next+1⟩ 0
 |_=>none
noncomputable def xl9:FnT:=λc h args m=>match args with
 |[t0]=>xce c h m.next t0 ⟨m.hp,m.next+1⟩ 0
 |_=>none
noncomputable def xv6:FnT:=λc h args m=>match args with
 |[t0,t1]=>xcf c h m.next t0 t1 ⟨m.hp,m.next+1⟩ 0
 |_=>none
noncomputable def xv7:FnT:=λc h args m=>match args with
 |[t0,t1]=>xcg c h m.next t0 t1 ⟨m.hp,m.next+1⟩ 0
 |_=>none
noncomputable def xv8:FnT:=λc h args m=>match args with
 |[t0,t1]=>xch c h m.next t0 t1 ⟨m.hp,m.next+1⟩ 0
 |_=>none
noncomputable def xv9:FnT:=λc h args m=>match args with
 |[t0]=>xci c h m.next t0 ⟨m.hp,m.next+1⟩ 0
 |_=>none
noncomputable def xva:FnT:=λc h args m=>match args with
 |[t0,t1]=>xcj c h m.next t0 t1 ⟨m.hp,m.next+1⟩ 0
 |_=>none
noncomputable def xvb:FnT:=λc h args m=>match args with
 |[t0,t1]=>xck c h m.next t0 t1 ⟨m.hp,m.next+1⟩ 0
 |_=>none
noncomputable def xap:FnT:=λc h args m=>match args with
 |[t0,t1,t2]=>x8y c h m.next t0 t1 t2 ⟨m.hp,m.next+1⟩ 0
 |_=>none
noncomputable def xaq:FnT:=λc h args m=>match args with
 |[t0,t1]=>x8z c h m.next t0 t1 ⟨m.hp,m.next+1⟩ 0
 |_=>none
noncomputable def xar:FnT:=λc h args m=>match args with
 |[t0]=>x90 c h m.next t0 ⟨m.hp,m.next+1⟩ 0
 |_=>none
noncomputable def xas:FnT:=λc h args m=>match args with
 |[t0]=>x91 c h m.next t0 ⟨m.hp,m.next+1⟩ 0
 |_=>none
noncomputable def xat:FnT:=λc h args m=>match args with
 |[t0]=>x92 c h m.next t0 ⟨m.hp,m.next+1⟩ 0
 |_=>none
noncomputable def xau:FnT:=λc h args m=>match args with
 |[t0,t1]=>x94 c h m.next t0 t1 ⟨m.hp,m.next+1⟩ 0
 |_=>none
noncomputable def xav:FnT:=λc h args m=>match args with
 |[t0,t1]=>x95 c h m.next t0 t1 ⟨m.hp,m.next+1⟩ 0
 |_=>none
noncomputable def xaw:FnT:=λc h args m=>match args with
 |[t0,t1]=>x96 c h m.next t0 t1 ⟨m.hp,m.next+1⟩ 0
 |_=>none
noncomputable def xax:FnT:=λc h args m=>match args with
 |[t0]=>x98 c h m.next t0 ⟨m.hp,m.next+1⟩ 0
 |_=>none
noncomputable def xla:FnT:=λc h args m=>match args with
 |[t0,t1]=>xcq c h m.next t0 t1 ⟨m.hp,m.next+1⟩ 0
 |_=>none
noncomputable def xay:FnT:=λc h args m=>match args with
 |[t0,t1]=>x9c c h m.next t0 t1 ⟨m.hp,m.next+1⟩ 0
 |_=>none
noncomputable def xvc:FnT:=λc h args m=>match args with
 |[t0,t1,t2]=>xcr c h m.next t0 t1 t2 ⟨m.hp,m.next+1⟩ 0
 |_=>none
noncomputable def xvd:FnT:=λc h args m=>match args with
 |[t0]=>xcs c h m.next t0 ⟨m.hp,m.next+1⟩ 0
 |_=>none
noncomputable def xve:FnT:=λc h args m=>match args with
 |[t0,t1,t2]=>xct c h m.next t0 t1 t2 ⟨m.hp,m.next+1⟩ 0
 |_=>none
noncomputable def xvf:FnT:=λc h args m=>match args with
 |[t0]=>xcv c h m.next t0 ⟨m.hp,m.next+1⟩ 0
 |_=>none
noncomputable def xvg:FnT:=λc h args m=>match args with
 |[t0,t1]=>xcx c h m.next t0 t1 ⟨m.hp,m.next+1⟩ 0
 |_=>none
noncomputable def xvh:FnT:=λc h args m=>match args with
 |[t0,t1]=>xcz c h m.next t0 t1 ⟨m.hp,m.next+1⟩ 0
 |_=>none
noncomputable def xvi:FnT:=λc h args m=>match args with
 |[t0]=>xd1 c h m.next t0 ⟨m.hp,m.next+1⟩ 0
 |_=>none
noncomputable def xvj:FnT:=λc h args m=>match args with
 |[t0]=>xd3 c h m.next t0 ⟨m.hp,m.next+1⟩ 0
 |_=>none
noncomputable def xaz:FnT:=λc h args m=>match args with
 |[t0]=>x9f c h m.next t0 ⟨m.hp,m.next+1⟩ 0
 |_=>none
noncomputable def xvk:FnT:=λc h args m=>match args with
 |[t0]=>xd6 c h m.next t0 ⟨m.hp,m.next+1⟩ 0
 |_=>none
noncomputable def xvl:FnT:=λc h args m=>match args with
 |[t0]=>xd7 c h m.next t0 ⟨m.hp,m.next+1⟩ 0
 |_=>none
noncomputable def xvm:FnT:=λc h args m=>match args with
 |[t0,t1]=>xd9 c h m.next t0 t1 ⟨m.hp,m.next+1⟩ 0
 |_=>none
noncomputable def xvn:FnT:=λc h args m=>match args with
 |[t0,t1]=>xda c h m.next t0 t1 ⟨m.hp,m.next+1⟩ 0
 |_=>none
noncomputable def xvo:FnT:=λc h args m=>match args with
 |[t0,t1]=>xdb c h m.next t0 t1 ⟨m.hp,m.next+1⟩ 0
 |_=>none
noncomputable def xvp:FnT:=λc h args m=>match args with
 |[t0,t1]=>xdd c h m.next t0 t1 ⟨m.hp,m.next+1⟩ 0
 |_=>none
noncomputable def xvq:FnT:=λc h args m=>match args with
 |[t0,t1]=>xde c h m.next t0 t1 ⟨m.hp,m.next+1⟩ 0
 |_=>none
noncomputable def xvr:FnT:=λc h args m=>match args with
 |[t0,t1,t2]=>xdg c h m.next t0 t1 t2 ⟨m.hp,m.next+1⟩ 0
 |_=>none
noncomputable def xvs:FnT:=λc h args m=>match args with
 |[t0,t1]=>xdh c h m.next t0 t1 ⟨m.hp,m.next+1⟩ 0
 |_=>none
noncomputable def xb0:FnT:=λc h args m=>match args with
 |[t0,t1,t2]=>x9j c h m.next t0 t1 t2 ⟨m.hp,m.next+1⟩ 0
 |_=>none
noncomputable def xvt:FnT:=λc h args m=>match args with
 |[t0,t1]=>xdl c h m.next t0 t1 ⟨m.hp,m.next+1⟩ 0
 |_=>none
noncomputable def xvu:FnT:=λc h args m=>match args with
 |[t0,t1]=>xdm c h m.next t0 t1 ⟨m.hp,m.next+1⟩ 0
 |_=>none
noncomputable def xvv:FnT:=λc h args m=>match args with
 |[t0]=>xdn c h m.next t0 ⟨m.hp,m.next+1⟩ 0
 |_=>none
noncomputable def xvw:FnT:=λc h args m=>match args with
 |[t0,t1]=>xdp c h m.next t0 t1 ⟨m.hp,m.next+1⟩ 0
 |_=>none
noncomputable def xvx:FnT:=λc h args m=>match args with
 |[t0,t1]=>xdq c h m.next t0 t1 ⟨m.hp,m.next+1⟩ 0
 |_=>none
noncomputable def xvy:FnT:=λc h args m=>match args with
 |[t0,t1]=>xds c h m.next t0 t1 ⟨m.hp,m.next+1⟩ 0
 |_=>none
noncomputable def xvz:FnT:=λc h args m=>match args with
 |[t0,t1]=>xdt c h m.next t0 t1 ⟨m.hp,m.next+1⟩ 0
 |_=>none
noncomputable def xw0:FnT:=λc h args m=>match args with
 |[t0,t1]=>xdu c h m.next t0 t1 ⟨m.hp,m.next+1⟩ 0
 |_=>none
noncomputable def xw1:FnT:=λc h args m=>match args with
 |[t0,t1]=>xdw c h m.next t0 t1 ⟨m.hp,m.next+1⟩ 0
 |_=>none
noncomputable def xw2:FnT:=λc h args m=>match args with
 |[t0,t1,t2]=>xdy c h m.next t0 t1 t2 ⟨m.hp,m.next+1⟩ 0
 |_=>none
noncomputable def xw3:FnT:=λc h args m=>match args with
 |[t0,t1]=>xdz c h m.next t0 t1 ⟨m.hp,m.next+1⟩ 0
 |_=>none
noncomputable def xw4:FnT:=λc h args m=>match args with
 |[t0,t1]=>xe0 c h m.next t0 t1 ⟨m.hp,m.next+1⟩ 0
 |_=>none
noncomputable def xw5:FnT:=λc h args m=>match args with
 |[t0,t1]=>xe1 c h m.next t0 t1 ⟨m.hp,m.next+1⟩ 0
 |_=>none
noncomputable def xw6:FnT:=λc h args m=>match args with
 |[t0]=>xe3 c h m.next t0 ⟨m.hp,m.next+1⟩ 0
 |_=>none
noncomputable def xw7:FnT:=λc h args m=>match args with
 |[t0,t1]=>xe6 c h m.next t0 t1 ⟨m.hp,m.next+1⟩ 0
 |_=>none
noncomputable def xb1:FnT:=λc h args m=>match args with
 |[t0,t1,t2,t3]=>x9p c h m.next t0 t1 t2 t3 ⟨m.hp,m.next+1⟩ 0
 |_=>none
noncomputable def xb2:FnT:=λc h args m=>match args with
 |[t0,t1,t2,t3,t4]=>x9z c h m.next t0 t1 t2 t3 t4 ⟨m.hp,m.next+1⟩ 0
 |_=>none
noncomputable def xw8:FnT:=λc h args m=>match args with
 |[t0,t1]=>xek c h m.next t0 t1 ⟨m.hp,m.next+1⟩ 0
 |_=>none
noncomputable def xw9:FnT:=λc h args m=>match args with
 |[t0,t1]=>xel c h m.next t0 t1 ⟨m.hp,m.next+1⟩ 0
 |_=>none
noncomputable def xwa:FnT:=λc h args m=>match args with
 |[t0,t1]=>xen c h m.next t0 t1 ⟨m.hp,m.next+1⟩ 0
 |_=>none
noncomputable def xwb:FnT:=λc h args m=>match args with
 |[t0,t1]=>xes c h m.next t0 t1 ⟨m.hp,m.next+1⟩ 0
 |_=>none
noncomputable def xwc:FnT:=λc h args m=>match args with
 |[t0,t1]=>xet c h m.next t0 t1 ⟨m.hp,m.next+1⟩ 0
 |_=>none
noncomputable def xwd:FnT:=λc h args m=>match args with
 |[t0,t1,t2]=>xeu c h m.next t0 t1 t2 ⟨m.hp,m.next+1⟩ 0
 |_=>none
noncomputable def xwe:FnT:=λc h args m=>match args with
 |[t0,t1]=>xew c h m.next t0 t1 ⟨m.hp,m.next+1⟩ 0
 |_=>none
noncomputable def xwf:FnT:=λc h args m=>match args with
 |[t0,t1]=>xex c h m.next t0 t1 ⟨m.hp,m.next+1⟩ 0
 |_=>none
noncomputable def xwg:FnT:=λc h args m=>match args with
 |[t0]=>xey c h m.next t0 ⟨m.hp,m.next+1⟩ 0
 |_=>none
noncomputable def xwh:FnT:=λc h args m=>match args with
 |[t0,t1]=>xez c h m.next t0 t1 ⟨m.hp,m.next+1⟩ 0
 |_=>none
noncomputable def xwi:FnT:=λc h args m=>match args with
 |[t0]=>xf0 c h m.next t0 ⟨m.hp,m.next+1⟩ 0
 |_=>none
noncomputable def xwj:FnT:=λc h args m=>match args with
 |[t0,t1]=>xf3 c h m.next t0 t1 ⟨m.hp,m.next+1⟩ 0
 |_=>none
noncomputable def xwk:FnT:=λc h args m=>match args with
 |[t0,t1,t2]=>xf4 c h m.next t0 t1 t2 ⟨m.hp,m.next+1⟩ 0
 |_=>none
noncomputable def xwl:FnT:=λc h args m=>match args with
 |[t0]=>xf5 c h m.next t0 ⟨m.hp,m.next+1⟩ 0
 |_=>none
noncomputable def xwm:FnT:=λc h args m=>match args with
 |[t0,t1]=>xf6 c h m.next t0 t1 ⟨m.hp,m.next+1⟩ 0
 |_=>none
noncomputable def xwn:FnT:=λc h args m=>match args with
 |[t0,t1,t2]=>xf7 c h m.next t0 t1 t2 ⟨m.hp,m.next+1⟩ 0
 |_=>none
noncomputable def xwo:FnT:=λc h args m=>match args with
 |[t0,t1]=>xf8 c h m.next t0 t1 ⟨m.hp,m.next+1⟩ 0
 |_=>none
noncomputable def xb3:FnT:=λc h args m=>match args with
 |[t0,t1,t2,t3,t4]=>xa1 c h m.next t0 t1 t2 t3 t4 ⟨m.hp,m.next+1⟩ 0
 |_=>none
noncomputable def xwp:FnT:=λc h args m=>match args with
 |[t0]=>xfb c h m.next t0 ⟨m.hp,m.next+1⟩ 0
 |_=>none
noncomputable def xwq:FnT:=λc h args m=>match args with
 |[t0,t1,t2]=>xfc c h m.next t0 t1 t2 ⟨m.hp,m.next+1⟩ 0
 |_=>none
noncomputable def xwr:FnT:=λc h args m=>match args with
 |[t0,t1]=>xfe c h m.next t0 t1 ⟨m.hp,m.next+1⟩ 0
 |_=>none
noncomputable def xws:FnT:=λc h args m=>match args with
 |[t0,t1]=>xfh c h m.next t0 t1 ⟨m.hp,m.next+1⟩ 0
 |_=>none
noncomputable def xwt:FnT:=λc h args m=>match args with
 |[t0,t1]=>xfk c h m.next t0 t1 ⟨m.hp,m.next+1⟩ 0
 |_=>none
noncomputable def xwu:FnT:=λc h args m=>match args with
 |[t0,t1]=>xfl c h m.next t0 t1 ⟨m.hp,m.next+1⟩ 0
 |_=>none
noncomputable def xwv:FnT:=λc h args m=>match args with
 |[t0]=>xfm c h m.next t0 ⟨m.hp,m.next+1⟩ 0
 |_=>none
noncomputable def xww:FnT:=λc h args m=>match args with
 |[t0,t1]=>xfo c h m.next t0 t1 ⟨m.hp,m.next+1⟩ 0
 |_=>none
noncomputable def xwx:FnT:=λc h args m=>match args with
 |[t0]=>xfp c h m.next t0 ⟨m.hp,m.next+1⟩ 0
 |_=>none
noncomputable def xwy:FnT:=λc h args m=>match args with
 |[t0]=>xfq c h m.next t0 ⟨m.hp,m.next+1⟩ 0
 |_=>none
noncomputable def xwz:FnT:=λc h args m=>match args with
 |[t0]=>xfr c h m.next t0 ⟨m.hp,m.next+1⟩ 0
 |_=>none
noncomputable def xx0:FnT:=λc h args m=>match args with
 |[t0]=>xfs c h m.next t0 ⟨m.hp,m.next+1⟩ 0
 |_=>none
noncomputable def xx1:FnT:=λc h args m=>match args with
 |[t0]=>xft c h m.next t0 ⟨m.hp,m.next+1⟩ 0
 |_=>none
noncomputable def xx2:FnT:=λc h args m=>match args with
 |[t0]=>xfu c h m.next t0 ⟨m.hp,m.next+1⟩ 0
 |_=>none
noncomputable def xx3:FnT:=λc h args m=>match args with
 |[t0,t1]=>xfw c h m.next t0 t1 ⟨m.hp,m.next+1⟩ 0
 |_=>none
noncomputable def xx4:FnT:=λc h args m=>match args with
 |[t0]=>xfx c h m.next t0 ⟨m.hp,m.next+1⟩ 0
 |_=>none
noncomputable def xx5:FnT:=λc h args m=>match args with
 |[t0,t1]=>xfy c h m.next t0 t1 ⟨m.hp,m.next+1⟩ 0
 |_=>none
noncomputable def xx6:FnT:=λc h args m=>match args with
 |[t0,t1]=>xfz c h m.next t0 t1 ⟨m.hp,m.next+1⟩ 0
 |_=>none
noncomputable def xx7:FnT:=λc h args m=>match args with
 |[t0,t1]=>xg2 c h m.next t0 t1 ⟨m.hp,m.next+1⟩ 0
 |_=>none
noncomputable def xb4:FnT:=λc h args m=>match args with
 |[t0,t1,t2,t3,t4]=>xa5 c h m.next t0 t1 t2 t3 ⟨m.hp,m.next+1⟩ 0
 |_=>none
noncomputable def xx8:FnT:=λc h args m=>match args with
 |[t0]=>xg3 c h m.next t0 ⟨m.hp,m.next+1⟩ 0
 |_=>none
noncomputable def xx9:FnT:=λc h args m=>match args with
 |[t0,t1]=>xg4 c h m.next t0 t1 ⟨m.hp,m.next+1⟩ 0
 |_=>none
noncomputable def xxa:FnT:=λc h args m=>match args with
 |[t0]=>xg5 c h m.next t0 ⟨m.hp,m.next+1⟩ 0
 |_=>none
noncomputable def xxb:FnT:=λc h args m=>match args with
 |[t0,t1]=>xg6 c h m.next t0 t1 ⟨m.hp,m.next+1⟩ 0
 |_=>none
noncomputable def xxc:FnT:=λc h args m=>match args with
 |[t0]=>xg7 c h m.next t0 ⟨m.hp,m.next+1⟩ 0
 |_=>none
noncomputable def xxd:FnT:=λc h args m=>match args with
 |[t0]=>xgb c h m.next t0 ⟨m.hp,m.next+1⟩ 0
 |_=>none
noncomputable def xxe:FnT:=λc h args m=>match args with
 |[t0,t1,t2,t3,t4,t5,t6]=>xgd c h m.next t0 t1 t2 t3 t4 t5 t6 ⟨m.hp,m.next+1⟩ 0
 |_=>none
noncomputable def xxf:FnT:=λc h args m=>match args with
 |[t0,t1,t2]=>xge c h m.next t0 t1 t2 ⟨m.hp,m.next+1⟩ 0
 |_=>none
noncomputable def xxg:FnT:=λc h args m=>match args with
 |[t0]=>xgg c h m.next t0 ⟨m.hp,m.next+1⟩ 0
 |_=>none
noncomputable def xxh:FnT:=λc h args m=>match args with
 |[t0,t1]=>xgj c h m.next t0 t1 ⟨m.hp,m.next+1⟩ 0
 |_=>none
noncomputable def xxi:FnT:=λc h args m=>match args with
 |[t0,t1]=>xgk c h m.next t0 t1 ⟨m.hp,m.next+1⟩ 0
 |_=>none
noncomputable def xxj:FnT:=λc h args m=>match args with
 |[t0,t1]=>xgl c h m.next t0 t1 ⟨m.hp,m.next+1⟩ 0
 |_=>none
noncomputable def xxk:FnT:=λc h args m=>match args with
 |[t0,t1,t2,t3]=>xgp c h m.next t0 t1 t2 t3 ⟨m.hp,m.next+1⟩ 0
 |_=>none
noncomputable def xxl:FnT:=λc h args m=>match args with
 |[t0,t1]=>xgr c h m.next t0 t1 ⟨m.hp,m.next+1⟩ 0
 |_=>none
noncomputable def xxm:FnT:=λc h args m=>match args with
 |[t0,t1]=>xgs c h m.next t0 t1 ⟨m.hp,m.next+1⟩ 0
 |_=>none
noncomputable def xxn:FnT:=λc h args m=>match args with
 |[t0]=>xgt c h m.next t0 ⟨m.hp,m.next+1⟩ 0
 |_=>none
noncomputable def xxo:FnT:=λc h args m=>match args with
 |[t0,t1]=>xgw c h m.next t0 t1 ⟨m.hp,m.next+1⟩ 0
 |_=>none
noncomputable def xxp:FnT:=λc h args m=>match args with
 |[t0]=>xgy c h m.next t0 ⟨m.hp,m.next+1⟩ 0
 |_=>none
noncomputable def xut:FnT:=λc h args m=>match args with
 |[t0,t1]=>xh0 c h m.next t0 t1 ⟨m.hp,m.next+1⟩ 0
 |_=>none
noncomputable def xxq:FnT:=λc h args m=>match args with
 |[t0,t1]=>xh1 c h m.next t0 t1 ⟨m.hp,m.next+1⟩ 0
 |_=>none
noncomputable def xxr:FnT:=λc h args m=>match args with
 |[t0,t1,t2]=>xh2 c h m.next t0 t1 t2 ⟨m.hp,m.next+1⟩ 0
 |_=>none
noncomputable def xxs:FnT:=λc h args m=>match args with
 |[t0,t1]=>xh3 c h m.next t0 t1 ⟨m.hp,m.next+1⟩ 0
 |_=>none
noncomputable def xxt:FnT:=λc h args m=>match args with
 |[t0]=>xh4 c h m.next t0 ⟨m.hp,m.next+1⟩ 0
 |_=>none
noncomputable def xxu:FnT:=λc h args m=>match args with
 |[t0,t1,t2,t3]=>xh7 c h m.next t0 t1 t2 t3 ⟨m.hp,m.next+1⟩ 0
 |_=>none
noncomputable def xxv:FnT:=λc h args m=>match args with
 |[t0,t1]=>xh8 c h m.next t0 t1 ⟨m.hp,m.next+1⟩ 0
 |_=>none
noncomputable def xxw:FnT:=λc h args m=>match args with
 |[t0]=>xhc c h m.next t0 ⟨m.hp,m.next+1⟩ 0
 |_=>none
noncomputable def xxx:FnT:=λc h args m=>match args with
 |[t0,t1,t2,t3,t4]=>xhd c h m.next t0 t1 t2 t3 t4 ⟨m.hp,m.next+1⟩ 0
 |_=>none
noncomputable def xxy:FnT:=λc h args m=>match args with
 |[t0]=>xhe c h m.next t0 ⟨m.hp,m.next+1⟩ 0
 |_=>none
noncomputable def xxz:FnT:=λc h args m=>match args with
 |[t0,t1]=>xhf c h m.next t0 t1 ⟨m.hp,m.next+1⟩ 0
 |_=>none
noncomputable def xy0:FnT:=λc h args m=>match args with
 |[t0,t1]=>xhj c h m.next t0 t1 ⟨m.hp,m.next+1⟩ 0
 |_=>none
noncomputable def xy1:FnT:=λc h args m=>match args with
 |[t0,t1]=>xhl c h m.next t0 t1 ⟨m.hp,m.next+1⟩ 0
 |_=>none
noncomputable def xy2:FnT:=λc h args m=>match args with
 |[t0]=>xhp c h m.next t0 ⟨m.hp,m.next+1⟩ 0
 |_=>none
noncomputable def xy3:FnT:=λc h args m=>match args with
 |[t0]=>xhr c h m.next t0 ⟨m.hp,m.next+1⟩ 0
 |_=>none
noncomputable def xy4:FnT:=λc h args m=>match args with
 |[t0,t1,t2]=>xhw c h m.next t0 t1 t2 ⟨m.hp,m.next+1⟩ 0
 |_=>none
noncomputable def xy5:FnT:=λc h args m=>match args with
 |[t0]=>xhx c h m.next t0 ⟨m.hp,m.next+1⟩ 0
 |_=>none
noncomputable def xy6:FnT:=λc h args m=>match args with
 |[t0,t1,t2,t3]=>xi2 c h m.next t0 t1 t2 t3 ⟨m.hp,m.next+1⟩ 0
 |_=>none
noncomputable def xy7:FnT:=λc h args m=>match args with
 |[t0]=>xi3 c h m.next t0 ⟨m.hp,m.next+1⟩ 0
 |_=>none
noncomputable def xy8:FnT:=λc h args m=>match args with
 |[t0,t1,t2]=>xi6 c h m.next t0 t1 t2 ⟨m.hp,m.next+1⟩ 0
 |_=>none
noncomputable def xy9:FnT:=λc h args m=>match args with
 |[t0,t1]=>xi7 c h m.next t0 t1 ⟨m.hp,m.next+1⟩ 0
 |_=>none
noncomputable def xya:FnT:=λc h args m=>match args with
 |[t0,t1]=>xi8 c h m.next t0 t1 ⟨m.hp,m.next+1⟩ 0
 |_=>none
noncomputable def xyb:FnT:=λc h args m=>match args with
 |[t0,t1,t2]=>xi9 c h m.next t0 t1 t2 ⟨m.hp,m.next+1⟩ 0
 |_=>none
noncomputable def xyc:FnT:=λc h args m=>match args with
 |[t0,t1,t2]=>xia c h m.next t0 t1 t2 ⟨m.hp,m.next+1⟩ 0
 |_=>none
noncomputable def xyd:FnT:=λc h args m=>match args with
 |[t0,t1]=>xic c h m.next t0 t1 ⟨m.hp,m.next+1⟩ 0
 |_=>none
noncomputable def xye:FnT:=λc h args m=>match args with
 |[t0]=>xid c h m.next t0 ⟨m.hp,m.next+1⟩ 0
 |_=>none
noncomputable def xyf:FnT:=λc h args m=>match args with
 |[t0]=>xie c h m.next t0 ⟨m.hp,m.next+1⟩ 0
 |_=>none
noncomputable def xyg:FnT:=λc h args m=>match args with
 |[t0]=>xii c h m.next t0 ⟨m.hp,m.next+1⟩ 0
 |_=>none
noncomputable def xyh:FnT:=λc h args m=>match args with
 |[t0,t1]=>xij c h m.next t0 t1 ⟨m.hp,m.next+1⟩ 0
 |_=>none
noncomputable def xyi:FnT:=λc h args m=>match args with
 |[t0,t1]=>xik c h m.next t0 t1 ⟨m.hp,m.next+1⟩ 0
 |_=>none
noncomputable def xyj:FnT:=λc h args m=>match args with
 |[t0,t1,t2,t3]=>xin c h m.next t0 t1 t2 t3 ⟨m.hp,m.next+1⟩ 0
 |_=>none
noncomputable def xyk:FnT:=λc h args m=>match args with
 |[t0,t1,t2,t3,t4]=>xiw c h m.next t0 t1 t2 t3 t4 ⟨m.hp,m.next+1⟩ 0
 |_=>none
noncomputable def xyl:FnT:=λc h args m=>match args with
 |[t0,t1,t2]=>xiz c h m.next t0 t1 t2 ⟨m.hp,m.next+1⟩ 0
 |_=>none
noncomputable def xym:FnT:=λc h args m=>match args with
 |[t0,t1,t2]=>xj2 c h m.next t0 t1 t2 ⟨m.hp,m.next+1⟩ 0
 |_=>none
noncomputable def xyn:FnT:=λc h args m=>match args with
 |[t0,t1,t2]=>xj5 c h m.next t0 t1 t2 ⟨m.hp,m.next+1⟩ 0
 |_=>none
noncomputable def xyo:FnT:=λc h args m=>match args with
 |[t0,t1,t2]=>xj8 c h m.next t0 t1 t2 ⟨m.hp,m.next+1⟩ 0
 |_=>none
noncomputable def xyp:FnT:=λc h args m=>match args with
 |[t0,t1,t2]=>xja c h m.next t0 t1 t2 ⟨m.hp,m.next+1⟩ 0
 |_=>none
noncomputable def xyq:FnT:=λc h args m=>match args with
 |[t0,t1,t2]=>xjf c h m.next t0 t1 t2 ⟨m.hp,m.next+1⟩ 0
 |_=>none
noncomputable def xyr:FnT:=λc h args m=>match args with
 |[t0,t1]=>xjg c h m.next t0 t1 ⟨m.hp,m.next+1⟩ 0
 |_=>none
noncomputable def xys:FnT:=λc h args m=>match args with
 |[t0,t1,t2,t3]=>xjk c h m.next t0 t1 t2 t3 ⟨m.hp,m.next+1⟩ 0
 |_=>none
noncomputable def xyt:FnT:=λc h args m=>match args with
 |[t0,t1,t2,t3]=>xjq c h m.next t0 t1 t2 t3 ⟨m.hp,m.next+1⟩ 0
 |_=>none
noncomputable def xyu:FnT:=λc h args m=>match args with
 |[t0]=>xjt c h m.next t0 ⟨m.hp,m.next+1⟩ 0
 |_=>none
noncomputable def xyv:FnT:=λc h args m=>match args with
 |[t0]=>xjx c h m.next t0 ⟨m.hp,m.next+1⟩ 0
 |_=>none
noncomputable def xyw:FnT:=λc h args m=>match args with
 |[t0,t1,t2]=>xk2 c h m.next t0 t1 t2 ⟨m.hp,m.next+1⟩ 0
 |_=>none
noncomputable def xyx:FnT:=λc h args m=>match args with
 |[t0]=>xk3 c h m.next t0 ⟨m.hp,m.next+1⟩ 0
 |_=>none
noncomputable def xyy:FnT:=λc h args m=>match args with
 |[t0]=>xk4 c h m.next t0 ⟨m.hp,m.next+1⟩ 0
 |_=>none
noncomputable def xyz:FnT:=λc h args m=>match args with
 |[t0]=>xk5 c h m.next t0 ⟨m.hp,m.next+1⟩ 0
 |_=>none
noncomputable def xz0:FnT:=λc h args m=>match args with
 |[t0]=>xk6 c h m.next t0 ⟨m.hp,m.next+1⟩ 0
 |_=>none
noncomputable def xz1:FnT:=λc h args m=>match args with
 |[t0,t1]=>xka c h m.next t0 t1 ⟨m.hp,m.next+1⟩ 0
 |_=>none
noncomputable def xz2:FnT:=λc h args m=>match args with
 |[t0,t1,t2,t3,t4]=>xkg c h m.next t0 t1 t2 t3 t4 ⟨m.hp,m.next+1⟩ 0
 |_=>none
noncomputable def xz3:FnT:=λc h args m=>match args with
 |[t0]=>xkh c h m.next t0 ⟨m.hp,m.next+1⟩ 0
 |_=>none
noncomputable def xz4:FnT:=λc h args m=>match args with
 |[t0,t1]=>xkj c h m.next t0 t1 ⟨m.hp,m.next+1⟩ 0
 |_=>none
noncomputable def xz5:FnT:=λc h args m=>match args with
 |[t0,t1,t2,t3,t4]=>xkl c h m.next t0 t1 t2 t3 t4 ⟨m.hp,m.next+1⟩ 0
 |_=>none
noncomputable def xz6:FnT:=λc h args m=>match args with
 |[t0,t1,t2,t3]=>xko c h m.next t0 t1 t2 t3 ⟨m.hp,m.next+1⟩ 0
 |_=>none
noncomputable def xz7:FnT:=λc h args m=>match args with
 |[t0]=>xkp c h m.next t0 ⟨m.hp,m.next+1⟩ 0
 |_=>none
noncomputable def xz8:FnT:=λc h args m=>match args with
 |[t0]=>xkq c h m.next t0 ⟨m.hp,m.next+1⟩ 0
 |_=>none
noncomputable def xz9:FnT:=λc h args m=>match args with
 |[t0,t1,t2]=>xkr c h m.next t0 t1 t2 ⟨m.hp,m.next+1⟩ 0
 |_=>none
noncomputable def xza:FnT:=λc h args m=>match args with
 |[t0,t1,t2,t3,t4]=>xks c h m.next t0 t1 t2 t3 t4 ⟨m.hp,m.next+1⟩ 0
 |_=>none
noncomputable def xzb:FnT:=λc h args m=>match args with
 |[t0]=>xkt c h m.next t0 ⟨m.hp,m.next+1⟩ 0
 |_=>none
noncomputable def xzc:FnT:=λc h args m=>match args with
 |[t0]=>xku c h m.next t0 ⟨m.hp,m.next+1⟩ 0
 |_=>none
noncomputable def xzd:FnT:=λc h args m=>match args with
 |[t0]=>xkw c h m.next t0 ⟨m.hp,m.next+1⟩ 0
 |_=>none
noncomputable def xze:FnT:=λc h args m=>match args with
 |[t0]=>xkx c h m.next t0 ⟨m.hp,m.next+1⟩ 0
 |_=>none
noncomputable def xzf:FnT:=λc h args m=>match args with
 |[t0]=>xky c h m.next t0 ⟨m.hp,m.next+1⟩ 0
 |_=>none
noncomputable def xzg:FnT:=λc h args m=>match args with
 |[t0]=>xkz c h m.next t0 ⟨m.hp,m.next+1⟩ 0
 |_=>none
noncomputable def xzh:FnT:=λc h args m=>match args with
 |[t0]=>xl0 c h m.next t0 ⟨m.hp,m.next+1⟩ 0
 |_=>none
noncomputable def xzi:FnT:=λc h args m=>match args with
 |[t0,t1,t2,t3,t4]=>xl2 c h m.next t0 t1 t2 t3 ⟨m.hp,m.next+1⟩ 0
 |_=>none
noncomputable def xzj:FnT:=λc h args m=>match args with
 |[t0,t1,t2,t3]=>xl3 c h m.next t0 t1 t2 t3 ⟨m.hp,m.next+1⟩ 0
 |_=>none
noncomputable def xzk:FnT:=λc h args m=>match args with
 |[t0]=>xl4 c h m.next t0 ⟨m.hp,m.next+1⟩ 0
 |_=>none
noncomputable def xzl:FnT:=λc h args m=>match args with
 |[t0]=>xl5 c h m.next t0 ⟨m.hp,m.next+1⟩ 0
 |_=>none
end Go.Ix
