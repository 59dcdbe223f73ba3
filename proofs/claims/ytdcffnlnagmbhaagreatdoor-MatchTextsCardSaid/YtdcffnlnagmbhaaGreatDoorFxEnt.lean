import Derived.Test.YtdcffnlnagmbhaaGreatDoorFxText0
set_option linter.unusedVariables false
namespace Go.Ix
open Go.Proofs
noncomputable def x6g:FnT:=λc h args m=>match args with
 |[t0,t1,t2]=>x4y c h m.next t0 t1 t2 ⟨m.hp,m.next+1⟩ 0
 |_=>none
noncomputable def xhn:FnT:=λc h args m=>match args with
 |[]=>x7i c h m.next ⟨m.hp,m.next+1⟩ 0
 |_=>none
noncomputable def x6h:FnT:=λc h args m=>match args with
 |[t0]=>x50 c h m.next t0 ⟨m.hp,m.next+1⟩ 0
 |_=>none
noncomputable def x6i:FnT:=λc h args m=>match args with
 |[t0]=>x51 c h m.next t0 ⟨m.hp,m.next+1⟩ 0
 |_=>none
noncomputable def x6j:FnT:=λc h args m=>match args with
 |[t0]=>x52 c h m.next t0 ⟨m.hp,m.next+1⟩ 0
 |_=>none
noncomputable def x6k:FnT:=λc h args m=>match args with
 |[t0]=>x53 c h m.next t0 ⟨m.hp,m.next+1⟩ 0
 |_=>none
noncomputable def x6l:FnT:=λc h args m=>match args with
 |[t0]=>x54 c h m.next t0 ⟨m.hp,m.next+1⟩ 0
 |_=>none
noncomputable def x6m:FnT:=λc h args m=>match args with
 |[t0]=>x55 c h m.next t0 ⟨m.hp,m.next+1⟩ 0
 |_=>none
noncomputable def x6n:FnT:=λc h args m=>match args with
 |[t0]=>x56 c h m.next t0 ⟨m.hp,m.next+1⟩ 0
 |_=>none
noncomputable def x6o:FnT:=λc h args m=>match args with
 |[t0]=>x57 c h m.next t0 ⟨m.hp,m.next+1⟩ 0
 |_=>none
noncomputable def x6p:FnT:=λc h args m=>match args with
 |[t0]=>x58 c h m.next t0 ⟨m.hp,m.next+1⟩ 0
 |_=>none
noncomputable def x6q:FnT:=λc h args m=>match args with
 |[t0]=>x5a c h m.next t0 ⟨m.hp,m.next+1⟩ 0
 |_=>none
noncomputable def xho:FnT:=λc h args m=>match args with
 |[t0,t1,t2]=>x7m c h m.next t0 t1 t2 ⟨m.hp,m.next+1⟩ 0
 |_=>none
noncomputable def xhp:FnT:=λc h args m=>match args with
 |[]=>x7n c h m.next ⟨m.hp,m.next+1⟩ 0
 |_=>none
noncomputable def xhq:FnT:=λc h args m=>match args with
 |[t0,t1,t2]=>x7o c h m.next t0 t1 t2 ⟨m.hp,m.next+1⟩ 0
 |_=>none
noncomputable def xhr:FnT:=λc h args m=>match args with
 |[t0]=>x7p c h m.next t0 ⟨m.hp,m.next+1⟩ 0
 |_=>none
noncomputable def xhs:FnT:=λc h args m=>match args with
 |[]=>x7q c h m.next ⟨m.hp,m.next+1⟩ 0
 |_=>none
noncomputable def xht:FnT:=λc h args m=>match args with
 |[t0,t1]=>x7s c h m.next t0 t1 ⟨m.hp,m.next+1⟩ 0
 |_=>none
noncomputable def xhu:FnT:=λc h args m=>match args with
 |[t0,t1,t2]=>x7t c h m.next t0 t1 t2 ⟨m.hp,m.next+1⟩ 0
 |_=>none
noncomputable def xhv:FnT:=λc h args m=>match args with
 |[t0,t1,t2]=>x7w c h m.next t0 t1 t2 ⟨m.hp,m.next+1⟩ 0
 |_=>none
noncomputable def xhw:FnT:=λc h args m=>match args with
 |[t0,t1]=>x7y c h m.next t0 t1 ⟨m.hp,m.next+1⟩ 0
 |_=>none
noncomputable def x6r:FnT:=λc h args m=>match args with
 |[t0]=>x5e c h m.next t0 ⟨m.hp,m.next+1⟩ 0
 |_=>none
noncomputable def xhx:FnT:=λc h args m=>match args with
 |[t0]=>x84 c h m.next t0 ⟨m.hp,m.next+1⟩ 0
 |_=>none
noncomputable def x6s:FnT:=λc h args m=>match args with
 |[t0,t1]=>x5f c h m.next t0 t1 ⟨m.hp,m.next+1⟩ 0
 |_=>none
noncomputable def x6t:FnT:=λc h args m=>match args with
 |[t0]=>x5g c h m.next t0 ⟨m.hp,m.next+1⟩ 0
 |_=>none
noncomputable def x6u:FnT:=λc h args m=>match args with
 |[t0]=>x5i c h m.next t0 ⟨m.hp,m.next+1⟩ 0
 |_=>none
noncomputable def x6v:FnT:=λc h args m=>match args with
 |[t0,t1]=>x5k c h m.next t0 t1 ⟨m.hp,m.next+1⟩ 0
 |_=>none
noncomputable def x6w:FnT:=λc h args m=>match args with
 |[t0]=>x5m c h m.next t0 ⟨m.hp,m.next+1⟩ 0
 |_=>none
noncomputable def x6x:FnT:=λc h args m=>match args with
 |[t0,t1,t2]=>x5n c h m.next t0 t1 t2 ⟨m.hp,m.next+1⟩ 0
 |_=>none
noncomputable def xhy:FnT:=λc h args m=>match args with
 |[t0]=>x8i c h m.next t0 ⟨m.hp,m.next+1⟩ 0
 |_=>none
noncomputable def xhz:FnT:=λc h args m=>match args with
 |[t0,t1]=>x8j c h m.next t0 t1 ⟨m.hp,m.next+1⟩ 0
 |_=>none
noncomputable def xi0:FnT:=λc h args m=>match args with
 |[t0,t1,t2]=>x8k c h m.next t0 t1 t2 ⟨m.hp,m.next+1⟩ 0
 |_=>none
noncomputable def xi1:FnT:=λc h args m=>match args with
 |[t0]=>x8l c h m.next t0 ⟨m.hp,m.next+1⟩ 0
 |_=>none
noncomputable def x6y:FnT:=λc h args m=>match args with
 |[t0,t1,t2]=>x5o c h m.next t0 t1 t2 ⟨m.hp,m.next+1⟩ 0
 |_=>none
noncomputable def xi2:FnT:=λc h args m=>match args with
 |[t0,t1,t2]=>x8p c h m.next t0 t1 t2 ⟨m.hp,m.next+1⟩ 0
 |_=>none
noncomputable def xi3:FnT:=λc h args m=>match args with
 |[t0]=>x8q c h m.next t0 ⟨m.hp,m.next+1⟩ 0
 |_=>none
noncomputable def xi4:FnT:=λc h args m=>match args with
 |[t0]=>x8v c h m.next t0 ⟨m.hp,m.next+1⟩ 0
 |_=>none
noncomputable def xi5:FnT:=λc h args m=>match args with
 |[t0]=>x91 c h m.next t0 ⟨m.hp,m.next+1⟩ 0
 |_=>none
noncomputable def xi6:FnT:=λc h args m=>match args with
 |[t0]=>x92 c h m.next t0 ⟨m.hp,m.next+1⟩ 0
 |_=>none
noncomputable def xi7:FnT:=λc h args m=>match args with
 |[t0,t1]=>x93 c h m.next t0 t1 ⟨m.hp,m.next+1⟩ 0
 |_=>none
noncomputable def xi8:FnT:=λc h args m=>match args with
 |[t0]=>x94 c h m.next t0 ⟨m.hp,m.next+1⟩ 0
 |_=>none
noncomputable def xi9:FnT:=λc h args m=>match args with
 |[t0,t1,t2]=>x97 c h m.next t0 t1 t2 ⟨m.hp,m.next+1⟩ 0
 |_=>none
noncomputable def xia:FnT:=λc h args m=>match args with
 |[t0,t1]=>x99 c h m.next t0 t1 ⟨m.hp,m.next+1⟩ 0
 |_=>none
noncomputable def x6z:FnT:=λc h args m=>match args with
 |[t0,t1]=>x5p c h m.next t0 t1 ⟨m.hp,m.next+1⟩ 0
 |_=>none
noncomputable def x70:FnT:=λc h args m=>match args with
 |[t0,t1]=>x5q c h m.next t0 t1 ⟨m.hp,m.next+1⟩ 0
 |_=>none
noncomputable def x71:FnT:=λc h args m=>match args with
 |[t0]=>x5r c h m.next t0 ⟨m.hp,m.next+1⟩ 0
 |_=>none
noncomputable def x72:FnT:=λc h args m=>match args with
 |[t0,t1]=>x5t c h m.next t0 t1 ⟨m.hp,m.next+1⟩ 0
 |_=>none
noncomputable def x73:FnT:=λc h args m=>match args with
 |[t0,t1]=>x5x c h m.next t0 t1 ⟨m.hp,m.next+1⟩ 0
 |_=>none
noncomputable def x74:FnT:=λc h args m=>match args with
 |[t0]=>x60 c h m.next t0 ⟨m.hp,m.next+1⟩ 0
 |_=>none
noncomputable def xib:FnT:=λc h args m=>match args with
 |[t0,t1]=>x9g c h m.next t0 t1 ⟨m.hp,m.next+1⟩ 0
 |_=>none
noncomputable def xic:FnT:=λc h args m=>match args with
 |[t0,t1]=>x9h c h m.next t0 t1 ⟨m.hp,m.next+1⟩ 0
 |_=>none
noncomputable def xid:FnT:=λc h args m=>match args with
 |[t0]=>x9i c h m.next t0 ⟨m.hp,m.next+1⟩ 0
 |_=>none
noncomputable def xie:FnT:=λc h args m=>match args with
 |[t0,t1]=>x9j c h m.next t0 t1 ⟨m.hp,m.next+1⟩ 0
 |_=>none
noncomputable def xif:FnT:=λc h args m=>match args with
 |[t0]=>x9k c h m.next t0 ⟨m.hp,m.next+1⟩ 0
 |_=>none
noncomputable def xig:FnT:=λc h args m=>match args with
 |[t0,t1]=>x9m c h m.next t0 t1 ⟨m.hp,m.next+1⟩ 0
 |_=>none
noncomputable def xih:FnT:=λc h args m=>match args with
 |[t0,t1]=>x9n c h m.next t0 t1 ⟨m.hp,m.next+1⟩ 0
 |_=>none
noncomputable def xii:FnT:=λc h args m=>match args with
 |[t0]=>x9p c h m.next t0 ⟨m.hp,m.next+1⟩ 0
 |_=>none
noncomputable def xij:FnT:=λc h args m=>match args with
 |[t0,t1]=>x9q c h m.next t0 t1 ⟨m.hp,m.next+1⟩ 0
 |_=>none
noncomputable def xik:FnT:=λc h args m=>match args with
 |[t0,t1]=>x9r c h m.next t0 t1 ⟨m.hp,m.next+1⟩ 0
 |_=>none
noncomputable def xil:FnT:=λc h args m=>match args with
 |[t0,t1]=>x9s c h m.next t0 t1 ⟨m.hp,m.next+1⟩ 0
 |_=>none
noncomputable def xim:FnT:=λc h args m=>match args with
 |[t0]=>x9t c h m.next t0 ⟨m.hp,m.next+1⟩ 0
 |_=>none
noncomputable def xin:FnT:=λc h args m=>match args with
 |[t0,t1,t2]=>x9u c h m.next t0 t1 t2 ⟨m.hp,m.next+1⟩ 0
 |_=>none
noncomputable def xio:FnT:=λc h args m=>match args with
 |[t0]=>x9v c h m.next t0 ⟨m.hp,m.next+1⟩ 0
 |_=>none
noncomputable def xip:FnT:=λc h args m=>match args with
 |[t0,t1]=>x9x c h m.next t0 t1 ⟨m.hp,m.next+1⟩ 0
 |_=>none
noncomputable def xiq:FnT:=λc h args m=>match args with
 |[t0,t1,t2]=>x9y c h m.next t0 t1 t2 ⟨m.hp,m.next+1⟩ 0
 |_=>none
noncomputable def xir:FnT:=λc h args m=>match args with
 |[t0,t1]=>x9z c h m.next t0 t1 ⟨m.hp,m.next+1⟩ 0
 |_=>none
noncomputable def xis:FnT:=λc h args m=>match args with
 |[t0]=>xa0 c h m.next t0 ⟨m.hp,m.next+1⟩ 0
 |_=>none
noncomputable def xit:FnT:=λc h args m=>match args with
 |[t0,t1]=>xa1 c h m.next t0 t1 ⟨m.hp,m.next+1⟩ 0
 |_=>none
noncomputable def xiu:FnT:=λc h args m=>match args with
 |[t0,t1]=>xa2 c h m.next t0 t1 ⟨m.hp,m.next+1⟩ 0
 |_=>none
noncomputable def xiv:FnT:=λc h args m=>match args with
 |[t0]=>xa3 c h m.next t0 ⟨m.hp,m.next+1⟩ 0
 |_=>none
noncomputable def xcr:FnT:=λc h args m=>match args with
 |[t0,t1,t2]=>xa4 c h m.next t0 t1 t2 ⟨m.hp,m.next+1⟩ 0
 |_=>none
noncomputable def xiw:FnT:=λc h args m=>match args with
 |[t0]=>xa8 c h m.next t0 ⟨m.hp,m.next+1⟩ 0
 |_=>none
noncomputable def xix:FnT:=λc h args m=>match args with
 |[t0,t1,t2,t3,t4]=>xa9 c h m.next t0 t1 t2 t3 t4 ⟨m.hp,m.next+1⟩ 0
 |_=>none
noncomputable def x7b:FnT:=λc h args m=>match args with
 |[t0,t1]=>x62 c h m.next t0 t1 ⟨m.hp,m.next+1⟩ 0
 |_=>none
noncomputable def x7c:FnT:=λc h args m=>match args with
 |[t0]=>x63 c h m.next t0 ⟨m.hp,m.next+1⟩ 0
 |_=>none
noncomputable def xiy:FnT:=λc h args m=>match args with
 |[t0,t1,t2]=>xab c h m.next t0 t1 t2 ⟨m.hp,m.next+1⟩ 0
 |_=>none
noncomputable def xiz:FnT:=λc h args m=>match args with
 |[t0]=>xac c h m.next t0 ⟨m.hp,m.next+1⟩ 0
 |_=>none
noncomputable def xj0:FnT:=λc h args m=>match args with
 |[t0]=>xae c h m.next t0 ⟨m.hp,m.next+1⟩ 0
 |_=>none
noncomputable def xj1:FnT:=λc h args m=>match args with
 |[t0,t1]=>xaf c h m.next t0 t1 ⟨m.hp,m.next+1⟩ 0
 |_=>none
noncomputable def xj2:FnT:=λc h args m=>match args with
 |[t0,t1]=>xag c h m.next t0 t1 ⟨m.hp,m.next+1⟩ 0
 |_=>none
noncomputable def xj3:FnT:=λc h args m=>match args with
 |[t0,t1]=>xai c h m.next t0 t1 ⟨m.hp,m.next+1⟩ 0
 |_=>none
noncomputable def xj4:FnT:=λc h args m=>match args with
 |[t0,t1,t2]=>xaj c h m.next t0 t1 t2 ⟨m.hp,m.next+1⟩ 0
 |_=>none
noncomputable def xj5:FnT:=λc h args m=>match args with
 |[t0,t1]=>xal c h m.next t0 t1 ⟨m.hp,m.next+1⟩ 0
 |_=>none
noncomputable def xj6:FnT:=λc h args m=>match args with
 |[t0,t1]=>xam c h m.next t0 t1 ⟨m.hp,m.next+1⟩ 0
 |_=>none
noncomputable def xj7:FnT:=λc h args m=>match args with
 |[t0,t1]=>xao c h m.next t0 t1 ⟨m.hp,m.next+1⟩ 0
 |_=>none
noncomputable def xj8:FnT:=λc h args m=>match args with
 |[t0,t1]=>xap c h m.next t0 t1 ⟨m.hp,m.next+1⟩ 0
 |_=>none
noncomputable def x7d:FnT:=λc h args m=>match args with
 |[t0,t1,t2,t3]=>x64 c h m.next t0 t1 t2 t3 ⟨m.hp,m.next+1⟩ 0
 |_=>none
noncomputable def xj9:FnT:=λc h args m=>match args with
 |[t0]=>xav c h m.next t0 ⟨m.hp,m.next+1⟩ 0
 |_=>none
noncomputable def x7e:FnT:=λc h args m=>match args with
 |[t0,t1]=>x65 c h m.next t0 t1 ⟨m.hp,m.next+1⟩ 0
 |_=>none
noncomputable def xja:FnT:=λc h args m=>match args with
 |[t0,t1,t2]=>xay c h m.next t0 t1 t2 ⟨m.hp,m.next+1⟩ 0
 |_=>none
noncomputable def xjb:FnT:=λc h args m=>match args with
 |[t0,t1]=>xaz c h m.next t0 t1 ⟨m.hp,m.next+1⟩ 0
 |_=>none
noncomputable def xjc:FnT:=λc h args m=>match args with
 |[t0,t1]=>xb0 c h m.next t0 t1 ⟨m.hp,m.next+1⟩ 0
 |_=>none
noncomputable def xjd:FnT:=λc h args m=>match args with
 |[t0,t1,t2]=>xb1 c h m.next t0 t1 t2 ⟨m.hp,m.next+1⟩ 0
 |_=>none
noncomputable def xje:FnT:=λc h args m=>match args with
 |[t0,t1,t2]=>xb2 c h m.next t0 t1 t2 ⟨m.hp,m.next+1⟩ 0
 |_=>none
noncomputable def x7f:FnT:=λc h args m=>match args with
 |[t0,t1]=>x68 c h m.next t0 t1 ⟨m.hp,m.next+1⟩ 0
 |_=>none
noncomputable def xhm:FnT:=λc h args m=>match args with
 |[t0,t1]=>xb3 c h m.next t0 t1 ⟨m.hp,m.next+1⟩ 0
 |_=>none
noncomputable def xjf:FnT:=λc h args m=>match args with
 |[t0,t1]=>xb4 c h m.next t0 t1 ⟨m.hp,m.next+1⟩ 0
 |_=>none
noncomputable def xjg:FnT:=λc h args m=>match args with
 |[t0]=>xb5 c h m.next t0 ⟨m.hp,m.next+1⟩ 0
 |_=>none
noncomputable def xjh:FnT:=λc h args m=>match args with
 |[t0,t1,t2]=>xb6 c h m.next t0 t1 t2 ⟨m.hp,m.next+1⟩ 0
 |_=>none
noncomputable def xji:FnT:=λc h args m=>match args with
 |[t0,t1]=>xba c h m.next t0 t1 ⟨m.hp,m.next+1⟩ 0
 |_=>none
noncomputable def xjj:FnT:=λc h args m=>match args with
 |[t0]=>xbb c h m.next t0 ⟨m.hp,m.next+1⟩ 0
 |_=>none
noncomputable def xjk:FnT:=λc h args m=>match args with
 |[t0]=>xbc c h m.next t0 ⟨m.hp,m.next+1⟩ 0
 |_=>none
noncomputable def xjl:FnT:=λc h args m=>match args with
 |[t0,t1]=>xbg c h m.next t0 t1 ⟨m.hp,m.next+1⟩ 0
 |_=>none
noncomputable def xjm:FnT:=λc h args m=>match args with
 |[t0,t1,t2,t3,t4]=>xbm c h m.next t0 t1 t2 t3 t4 ⟨m.hp,m.next+1⟩ 0
 |_=>none
noncomputable def xjn:FnT:=λc h args m=>match args with
 |[t0]=>xbn c h m.next t0 ⟨m.hp,m.next+1⟩ 0
 |_=>none
noncomputable def x7g:FnT:=λc h args m=>match args with
 |[t0,t1]=>x69 c h m.next t0 t1 ⟨m.hp,m.next+1⟩ 0
 |_=>none
noncomputable def xjo:FnT:=λc h args m=>match args with
 |[t0,t1,t2]=>xbu c h m.next t0 t1 t2 ⟨m.hp,m.next+1⟩ 0
 |_=>none
noncomputable def xjp:FnT:=λc h args m=>match args with
 |[t0]=>xbv c h m.next t0 ⟨m.hp,m.next+1⟩ 0
 |_=>none
noncomputable def xjq:FnT:=λc h args m=>match args with
 |[t0]=>xbw c h m.next t0 ⟨m.hp,m.next+1⟩ 0
 |_=>none
noncomputable def xjr:FnT:=λc h args m=>match args with
 |[t0]=>xbx c h m.next t0 ⟨m.hp,m.next+1⟩ 0
 |_=>none
noncomputable def xjs:FnT:=λc h args m=>match args with
 |[t0,t1]=>xby c h m.next t0 t1 ⟨m.hp,m.next+1⟩ 0
 |_=>none
noncomputable def xjt:FnT:=λc h args m=>match args with
 |[t0]=>xbz c h m.next t0 ⟨m.hp,m.next+1⟩ 0
 |_=>none
noncomputable def xju:FnT:=λc h args m=>match args with
 |[t0]=>xc0 c h m.next t0 ⟨m.hp,m.next+1⟩ 0
 |_=>none
noncomputable def xjv:FnT:=λc h args m=>match args with
 |[t0]=>xc2 c h m.next t0 ⟨m.hp,m.next+1⟩ 0
 |_=>none
noncomputable def xjw:FnT:=λc h args m=>match args with
 |[t0]=>xc6 c h m.next t0 ⟨m.hp,m.next+1⟩ 0
 |_=>none
noncomputable def xjx:FnT:=λc h args m=>match args with
 |[t0]=>xc7 c h m.next t0 ⟨m.hp,m.next+1⟩ 0
 |_=>none
noncomputable def xjy:FnT:=λc h args m=>match args with
 |[t0]=>xc8 c h m.next t0 ⟨m.hp,m.next+1⟩ 0
 |_=>none
noncomputable def xjz:FnT:=λc h args m=>match args with
 |[t0]=>xc9 c h m.next t0 ⟨m.hp,m.next+1⟩ 0
 |_=>none
noncomputable def x7h:FnT:=λc h args m=>match args with
 |[t0,t1]=>x6d c h m.next t0 t1 ⟨m.hp,m.next+1⟩ 0
 |_=>none
noncomputable def xk0:FnT:=λc h args m=>match args with
 |[t0]=>xca c h m.next t0 ⟨m.hp,m.next+1⟩ 0
 |_=>none
noncomputable def xk1:FnT:=λc h args m=>match args with
 |[t0,t1]=>xcd c h m.next t0 t1 ⟨m.hp,m.next+1⟩ 0
 |_=>none
noncomputable def xk2:FnT:=λc h args m=>match args with
 |[t0]=>xce c h m.next t0 ⟨m.hp,m.next+1⟩ 0
 |_=>none
noncomputable def xk3:FnT:=λc h args m=>match args with
 |[t0]=>xcg c h m.next t0 ⟨m.hp,m.next+1⟩ 0
 |_=>none
noncomputable def xk4:FnT:=λc h args m=>match args with
 |[t0]=>xci c h m.next t0 ⟨m.hp,m.next+1⟩ 0
 |_=>none
noncomputable def xk5:FnT:=λc h args m=>match args with
 |[t0]=>xcj c h m.next t0 ⟨m.hp,m.next+1⟩ 0
 |_=>none
noncomputable def xk6:FnT:=λc h args m=>match args with
 |[t0]=>xck c h m.next t0 ⟨m.hp,m.next+1⟩ 0
 |_=>none
noncomputable def xk7:FnT:=λc h args m=>match args with
 |[t0]=>xco c h m.next t0 ⟨m.hp,m.next+1⟩ 0
 |_=>none
noncomputable def xk8:FnT:=λc h args m=>match args with
 |[t0,t1]=>xcp c h m.next t0 t1 ⟨m.hp,m.next+1⟩ 0
 |_=>none
end Go.Ix
