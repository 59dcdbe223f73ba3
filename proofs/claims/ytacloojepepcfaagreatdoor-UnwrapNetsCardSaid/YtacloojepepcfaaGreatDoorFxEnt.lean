import Derived.Test.YtacloojepepcfaaGreatDoorFxText0
import Derived.Test.YtacloojepepcfaaGreatDoorFxText1
set_option linter.unusedVariables false
namespace Go.Ix
open Go.Proofs
noncomputable def x79:FnT:=λc h args m=>match args with
 |[t0,t1]=>x5c c h m.next t0 t1 ⟨m.hp,m.next+1⟩ 0
 |_=>none
noncomputable def xik:FnT:=λc h args m=>match args with
 |[]=>x8a c h m.next ⟨m.hp,m.next+1⟩ 0
 |_=>none
noncomputable def x7a:FnT:=λc h args m=>match args with
 |[t0]=>x5e c h m.next t0 ⟨m.hp,m.next+1⟩ 0
 |_=>none
noncomputable def x42:FnT:=λc h args m=>match args with
 |[t0]=>x37 c h m.next t0 ⟨m.hp,m.next+1⟩ 0
 |_=>none
noncomputable def x43:FnT:=λc h args m=>match args with
 |[t0]=>x38 c h m.next t0 ⟨m.hp,m.next+1⟩ 0
 |_=>none
noncomputable def x7b:FnT:=λc h args m=>match args with
 |[t0]=>x5h c h m.next t0 ⟨m.hp,m.next+1⟩ 0
 |_=>none
noncomputable def x7c:FnT:=λc h args m=>match args with
 |[t0]=>x5j c h m.next t0 ⟨m.hp,m.next+1⟩ 0
 |_=>none
noncomputable def x7d:FnT:=λc h args m=>match args with
 |[t0]=>x5l c h m.next t0 ⟨m.hp,m.next+1⟩ 0
 |_=>none
noncomputable def x7e:FnT:=λc h args m=>match args with
 |[t0]=>x5n c h m.next t0 ⟨m.hp,m.next+1⟩ 0
 |_=>none
noncomputable def x7f:FnT:=λc h args m=>match args with
 |[t0]=>x5s c h m.next t0 ⟨m.hp,m.next+1⟩ 0
 |_=>none
noncomputable def x2z:FnT:=λc h args m=>match args with
 |[t0,t1]=>x2l c h m.next t0 t1 ⟨m.hp,m.next+1⟩ 0
 |_=>none
noncomputable def x7g:FnT:=λc h args m=>match args with
 |[t0,t1]=>x5v c h m.next t0 t1 ⟨m.hp,m.next+1⟩ 0
 |_=>none
noncomputable def x7h:FnT:=λc h args m=>match args with
 |[t0]=>x5z c h m.next t0 ⟨m.hp,m.next+1⟩ 0
 |_=>none
noncomputable def xil:FnT:=λc h args m=>match args with
 |[t0]=>x94 c h m.next t0 ⟨m.hp,m.next+1⟩ 0
 |_=>none
noncomputable def xim:FnT:=λc h args m=>match args with
 |[t0]=>x95 c h m.next t0 ⟨m.hp,m.next+1⟩ 0
 |_=>none
noncomputable def xin:FnT:=λc h args m=>match args with
 |[t0,t1,t2]=>x96 c h m.next t0 t1 t2 ⟨m.hp,m.next+1⟩ 0
 |_=>none
noncomputable def xio:FnT:=λc h args m=>match args with
 |[t0]=>x99 c h m.next t0 ⟨m.hp,m.next+1⟩ 0
 |_=>none
noncomputable def xip:FnT:=λc h args m=>match args with
 |[t0]=>x9b c h m.next t0 ⟨m.hp,m.next+1⟩ 0
 |_=>none
noncomputable def xiq:FnT:=λc h args m=>match args with
 |[t0]=>x9d c h m.next t0 ⟨m.hp,m.next+1⟩ 0
 |_=>none
noncomputable def x78:FnT:=λc h args m=>match args with
 |[t0,t1,t2]=>x60 c h m.next t0 t1 t2 ⟨m.hp,m.next+1⟩ 0
 |_=>none
noncomputable def x7i:FnT:=λc h args m=>match args with
 |[t0]=>x61 c h m.next t0 ⟨m.hp,m.next+1⟩ 0
 |_=>none
noncomputable def x7j:FnT:=λc h args m=>match args with
 |[t0]=>x62 c h m.next t0 ⟨m.hp,m.next+1⟩ 0
 |_=>none
noncomputable def xdp:FnT:=λc h args m=>match args with
 |[t0]=>x3g c h m.next t0 ⟨m.hp,m.next+1⟩ 0
 |_=>none
noncomputable def x7k:FnT:=λc h args m=>match args with
 |[t0,t1,t2]=>x65 c h m.next t0 t1 t2 ⟨m.hp,m.next+1⟩ 0
 |_=>none
noncomputable def x7l:FnT:=λc h args m=>match args with
 |[t0]=>x68 c h m.next t0 ⟨m.hp,m.next+1⟩ 0
 |_=>none
noncomputable def x7m:FnT:=λc h args m=>match args with
 |[t0,t1]=>x69 c h m.next t0 t1 ⟨m.hp,m.next+1⟩ 0
 |_=>none
noncomputable def x7n:FnT:=λc h args m=>match args with
 |[t0,t1]=>x6a c h m.next t0 t1 ⟨m.hp,m.next+1⟩ 0
 |_=>none
noncomputable def x7o:FnT:=λc h args m=>match args with
 |[t0,t1]=>x6b c h m.next t0 t1 ⟨m.hp,m.next+1⟩ 0
 |_=>none
noncomputable def x7p:FnT:=λc h args m=>match args with
 |[t0,t1]=>x6d c h m.next t0 t1 ⟨m.hp,m.next+1⟩ 0
 |_=>none
noncomputable def x7q:FnT:=λc h args m=>match args with
 |[t0,t1]=>x6h c h m.next t0 t1 ⟨m.hp,m.next+1⟩ 0
 |_=>none
noncomputable def x7r:FnT:=λc h args m=>match args with
 |[t0]=>x6i c h m.next t0 ⟨m.hp,m.next+1⟩ 0
 |_=>none
noncomputable def x7s:FnT:=λc h args m=>match args with
 |[t0]=>x6k c h m.next t0 ⟨m.hp,m.next+1⟩ 0
 |_=>none
noncomputable def xir:FnT:=λc h args m=>match args with
 |[t0]=>x9u c h m.next t0 ⟨m.hp,m.next+1⟩ 0
 |_=>none
noncomputable def xis:FnT:=λc h args m=>match args with
 |[t0,t1]=>x9w c h m.next t0 t1 ⟨m.hp,m.next+1⟩ 0
 |_=>none
noncomputable def xit:FnT:=λc h args m=>match args with
 |[t0,t1]=>x9z c h m.next t0 t1 ⟨m.hp,m.next+1⟩ 0
 |_=>none
noncomputable def xiu:FnT:=λc h args m=>match args with
 |[t0]=>xa1 c h m.next t0 ⟨m.hp,m.next+1⟩ 0
 |_=>none
noncomputable def xiv:FnT:=λc h args m=>match args with
 |[t0]=>xa2 c h m.next t0 ⟨m.hp,m.next+1⟩ 0
 |_=>none
noncomputable def xiw:FnT:=λc h args m=>match args with
 |[t0]=>xa3 c h m.next t0 ⟨m.hp,m.next+1⟩ 0
 |_=>none
noncomputable def xif:FnT:=λc h args m=>match args with
 |[t0]=>xa4 c h m.next t0 ⟨m.hp,m.next+1⟩ 0
 |_=>none
noncomputable def xix:FnT:=λc h args m=>match args with
 |[t0]=>xa6 c h m.next t0 ⟨m.hp,m.next+1⟩ 0
 |_=>none
noncomputable def xiy:FnT:=λc h args m=>match args with
 |[t0,t1]=>xa9 c h m.next t0 t1 ⟨m.hp,m.next+1⟩ 0
 |_=>none
noncomputable def xiz:FnT:=λc h args m=>match args with
 |[t0,t1]=>xaa c h m.next t0 t1 ⟨m.hp,m.next+1⟩ 0
 |_=>none
noncomputable def x7t:FnT:=λc h args m=>match args with
 |[t0,t1]=>x6n c h m.next t0 t1 ⟨m.hp,m.next+1⟩ 0
 |_=>none
noncomputable def xdo:FnT:=λc h args m=>match args with
 |[t0,t1,t2]=>x3r c h m.next t0 t1 t2 ⟨m.hp,m.next+1⟩ 0
 |_=>none
noncomputable def xj0:FnT:=λc h args m=>match args with
 |[t0]=>xad c h m.next t0 ⟨m.hp,m.next+1⟩ 0
 |_=>none
noncomputable def xj1:FnT:=λc h args m=>match args with
 |[t0,t1]=>xae c h m.next t0 t1 ⟨m.hp,m.next+1⟩ 0
 |_=>none
noncomputable def xj2:FnT:=λc h args m=>match args with
 |[t0,t1]=>xaf c h m.next t0 t1 ⟨m.hp,m.next+1⟩ 0
 |_=>none
noncomputable def xj3:FnT:=λc h args m=>match args with
 |[t0]=>xag c h m.next t0 ⟨m.hp,m.next+1⟩ 0
 |_=>none
noncomputable def x7y:FnT:=λc h args m=>match args with
 |[t0]=>x6p c h m.next t0 ⟨m.hp,m.next+1⟩ 0
 |_=>none
noncomputable def xdq:FnT:=λc h args m=>match args with
 |[t0,t1,t2]=>xah c h m.next t0 t1 t2 ⟨m.hp,m.next+1⟩ 0
 |_=>none
noncomputable def xj4:FnT:=λc h args m=>match args with
 |[t0]=>xal c h m.next t0 ⟨m.hp,m.next+1⟩ 0
 |_=>none
noncomputable def xj5:FnT:=λc h args m=>match args with
 |[t0,t1,t2,t3,t4]=>xam c h m.next t0 t1 t2 t3 t4 ⟨m.hp,m.next+1⟩ 0
 |_=>none
noncomputable def x81:FnT:=λc h args m=>match args with
 |[t0,t1]=>x6r c h m.next t0 t1 ⟨m.hp,m.next+1⟩ 0
 |_=>none
noncomputable def x82:FnT:=λc h args m=>match args with
 |[t0,t1,t2]=>x6t c h m.next t0 t1 t2 ⟨m.hp,m.next+1⟩ 0
 |_=>none
noncomputable def xj6:FnT:=λc h args m=>match args with
 |[t0]=>xao c h m.next t0 ⟨m.hp,m.next+1⟩ 0
 |_=>none
noncomputable def xii:FnT:=λc h args m=>match args with
 |[t0,t1]=>xaq c h m.next t0 t1 ⟨m.hp,m.next+1⟩ 0
 |_=>none
noncomputable def xij:FnT:=λc h args m=>match args with
 |[t0]=>xar c h m.next t0 ⟨m.hp,m.next+1⟩ 0
 |_=>none
noncomputable def xj7:FnT:=λc h args m=>match args with
 |[t0,t1]=>xax c h m.next t0 t1 ⟨m.hp,m.next+1⟩ 0
 |_=>none
noncomputable def xih:FnT:=λc h args m=>match args with
 |[t0]=>xay c h m.next t0 ⟨m.hp,m.next+1⟩ 0
 |_=>none
noncomputable def xig:FnT:=λc h args m=>match args with
 |[t0,t1]=>xaz c h m.next t0 t1 ⟨m.hp,m.next+1⟩ 0
 |_=>none
noncomputable def xia:FnT:=λc h args m=>match args with
 |[t0,t1]=>xb3 c h m.next t0 t1 ⟨m.hp,m.next+1⟩ 0
 |_=>none
noncomputable def xj8:FnT:=λc h args m=>match args with
 |[t0,t1,t2]=>xb4 c h m.next t0 t1 t2 ⟨m.hp,m.next+1⟩ 0
 |_=>none
noncomputable def xj9:FnT:=λc h args m=>match args with
 |[t0,t1]=>xb5 c h m.next t0 t1 ⟨m.hp,m.next+1⟩ 0
 |_=>none
noncomputable def xja:FnT:=λc h args m=>match args with
 |[t0]=>xb6 c h m.next t0 ⟨m.hp,m.next+1⟩ 0
 |_=>none
noncomputable def xjb:FnT:=λc h args m=>match args with
 |[t0]=>xba c h m.next t0 ⟨m.hp,m.next+1⟩ 0
 |_=>none
noncomputable def xjc:FnT:=λc h args m=>match args with
 |[t0,t1]=>xbb c h m.next t0 t1 ⟨m.hp,m.next+1⟩ 0
 |_=>none
noncomputable def xie:FnT:=λc h args m=>match args with
 |[t0]=>xbd c h m.next t0 ⟨m.hp,m.next+1⟩ 0
 |_=>none
noncomputable def xid:FnT:=λc h args m=>match args with
 |[t0,t1,t2,t3]=>xbg c h m.next t0 t1 t2 t3 ⟨m.hp,m.next+1⟩ 0
 |_=>none
noncomputable def x83:FnT:=λc h args m=>match args with
 |[t0,t1]=>x6x c h m.next t0 t1 ⟨m.hp,m.next+1⟩ 0
 |_=>none
noncomputable def xdn:FnT:=λc h args m=>match args with
 |[t0,t1,t2,t3]=>x2u c h m.next t0 t1 t2 t3 ⟨m.hp,m.next+1⟩ 0
 |_=>none
noncomputable def xjd:FnT:=λc h args m=>match args with
 |[t0,t1]=>xbm c h m.next t0 t1 ⟨m.hp,m.next+1⟩ 0
 |_=>none
noncomputable def xje:FnT:=λc h args m=>match args with
 |[t0,t1]=>xbn c h m.next t0 t1 ⟨m.hp,m.next+1⟩ 0
 |_=>none
noncomputable def x84:FnT:=λc h args m=>match args with
 |[t0,t1,t2,t3]=>x6y c h m.next t0 t1 t2 t3 ⟨m.hp,m.next+1⟩ 0
 |_=>none
noncomputable def xjf:FnT:=λc h args m=>match args with
 |[t0]=>xbt c h m.next t0 ⟨m.hp,m.next+1⟩ 0
 |_=>none
noncomputable def x85:FnT:=λc h args m=>match args with
 |[t0,t1]=>x6z c h m.next t0 t1 ⟨m.hp,m.next+1⟩ 0
 |_=>none
noncomputable def xjg:FnT:=λc h args m=>match args with
 |[t0,t1,t2]=>xbw c h m.next t0 t1 t2 ⟨m.hp,m.next+1⟩ 0
 |_=>none
noncomputable def xjh:FnT:=λc h args m=>match args with
 |[t0,t1]=>xbx c h m.next t0 t1 ⟨m.hp,m.next+1⟩ 0
 |_=>none
noncomputable def xji:FnT:=λc h args m=>match args with
 |[t0,t1]=>xby c h m.next t0 t1 ⟨m.hp,m.next+1⟩ 0
 |_=>none
noncomputable def xjj:FnT:=λc h args m=>match args with
 |[t0,t1,t2]=>xbz c h m.next t0 t1 t2 ⟨m.hp,m.next+1⟩ 0
 |_=>none
noncomputable def xjk:FnT:=λc h args m=>match args with
 |[t0,t1,t2]=>xc0 c h m.next t0 t1 t2 ⟨m.hp,m.next+1⟩ 0
 |_=>none
noncomputable def x86:FnT:=λc h args m=>match args with
 |[t0,t1]=>x72 c h m.next t0 t1 ⟨m.hp,m.next+1⟩ 0
 |_=>none
noncomputable def xib:FnT:=λc h args m=>match args with
 |[t0,t1]=>xc1 c h m.next t0 t1 ⟨m.hp,m.next+1⟩ 0
 |_=>none
noncomputable def xjl:FnT:=λc h args m=>match args with
 |[t0,t1]=>xc2 c h m.next t0 t1 ⟨m.hp,m.next+1⟩ 0
 |_=>none
noncomputable def xjm:FnT:=λc h args m=>match args with
 |[t0,t1]=>xc3 c h m.next t0 t1 ⟨m.hp,m.next+1⟩ 0
 |_=>none
noncomputable def xjn:FnT:=λc h args m=>match args with
 |[t0,t1]=>xc5 c h m.next t0 t1 ⟨m.hp,m.next+1⟩ 0
 |_=>none
noncomputable def xjo:FnT:=λc h args m=>match args with
 |[t0,t1,t2]=>xc9 c h m.next t0 t1 t2 ⟨m.hp,m.next+1⟩ 0
 |_=>none
noncomputable def xjp:FnT:=λc h args m=>match args with
 |[t0,t1]=>xca c h m.next t0 t1 ⟨m.hp,m.next+1⟩ 0
 |_=>none
noncomputable def xjq:FnT:=λc h args m=>match args with
 |[t0]=>xcb c h m.next t0 ⟨m.hp,m.next+1⟩ 0
 |_=>none
noncomputable def xjr:FnT:=λc h args m=>match args with
 |[t0]=>xcc c h m.next t0 ⟨m.hp,m.next+1⟩ 0
 |_=>none
noncomputable def xjs:FnT:=λc h args m=>match args with
 |[t0,t1]=>xcg c h m.next t0 t1 ⟨m.hp,m.next+1⟩ 0
 |_=>none
noncomputable def xjt:FnT:=λc h args m=>match args with
 |[t0,t1,t2,t3,t4]=>xcm c h m.next t0 t1 t2 t3 t4 ⟨m.hp,m.next+1⟩ 0
 |_=>none
noncomputable def xju:FnT:=λc h args m=>match args with
 |[t0]=>xcn c h m.next t0 ⟨m.hp,m.next+1⟩ 0
 |_=>none
noncomputable def x87:FnT:=λc h args m=>match args with
 |[t0,t1]=>x73 c h m.next t0 t1 ⟨m.hp,m.next+1⟩ 0
 |_=>none
noncomputable def xjv:FnT:=λc h args m=>match args with
 |[t0,t1,t2]=>xcu c h m.next t0 t1 t2 ⟨m.hp,m.next+1⟩ 0
 |_=>none
noncomputable def xjw:FnT:=λc h args m=>match args with
 |[t0]=>xcv c h m.next t0 ⟨m.hp,m.next+1⟩ 0
 |_=>none
noncomputable def xjx:FnT:=λc h args m=>match args with
 |[t0]=>xcw c h m.next t0 ⟨m.hp,m.next+1⟩ 0
 |_=>none
noncomputable def xi9:FnT:=λc h args m=>match args with
 |[t0,t1,t2]=>xcz c h m.next t0 t1 t2 ⟨m.hp,m.next+1⟩ 0
 |_=>none
noncomputable def xjy:FnT:=λc h args m=>match args with
 |[t0,t1]=>xd0 c h m.next t0 t1 ⟨m.hp,m.next+1⟩ 0
 |_=>none
noncomputable def xic:FnT:=λc h args m=>match args with
 |[t0,t1]=>xd1 c h m.next t0 t1 ⟨m.hp,m.next+1⟩ 0
 |_=>none
noncomputable def xjz:FnT:=λc h args m=>match args with
 |[t0]=>xd2 c h m.next t0 ⟨m.hp,m.next+1⟩ 0
 |_=>none
noncomputable def xk0:FnT:=λc h args m=>match args with
 |[t0]=>xd6 c h m.next t0 ⟨m.hp,m.next+1⟩ 0
 |_=>none
noncomputable def xk1:FnT:=λc h args m=>match args with
 |[t0]=>xd7 c h m.next t0 ⟨m.hp,m.next+1⟩ 0
 |_=>none
noncomputable def xk2:FnT:=λc h args m=>match args with
 |[t0]=>xd8 c h m.next t0 ⟨m.hp,m.next+1⟩ 0
 |_=>none
noncomputable def xk3:FnT:=λc h args m=>match args with
 |[t0]=>xd9 c h m.next t0 ⟨m.hp,m.next+1⟩ 0
 |_=>none
noncomputable def x88:FnT:=λc h args m=>match args with
 |[t0,t1]=>x75 c h m.next t0 t1 ⟨m.hp,m.next+1⟩ 0
 |_=>none
noncomputable def xk4:FnT:=λc h args m=>match args with
 |[t0]=>xda c h m.next t0 ⟨m.hp,m.next+1⟩ 0
 |_=>none
noncomputable def xk5:FnT:=λc h args m=>match args with
 |[t0,t1]=>xdd c h m.next t0 t1 ⟨m.hp,m.next+1⟩ 0
 |_=>none
noncomputable def xk6:FnT:=λc h args m=>match args with
 |[t0]=>xde c h m.next t0 ⟨m.hp,m.next+1⟩ 0
 |_=>none
noncomputable def xk7:FnT:=λc h args m=>match args with
 |[t0]=>xdg c h m.next t0 ⟨m.hp,m.next+1⟩ 0
 |_=>none
noncomputable def xk8:FnT:=λc h args m=>match args with
 |[t0]=>xdh c h m.next t0 ⟨m.hp,m.next+1⟩ 0
 |_=>none
noncomputable def xk9:FnT:=λc h args m=>match args with
 |[t0]=>xdi c h m.next t0 ⟨m.hp,m.next+1⟩ 0
 |_=>none
noncomputable def xka:FnT:=λc h args m=>match args with
 |[t0]=>xdm c h m.next t0 ⟨m.hp,m.next+1⟩ 0
 |_=>none
end Go.Ix
