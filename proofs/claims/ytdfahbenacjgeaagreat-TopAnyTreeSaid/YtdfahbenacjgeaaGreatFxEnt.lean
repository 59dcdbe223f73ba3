import Derived.Test.YtdfahbenacjgeaaGreatFxText0
set_option linter.unusedVariables false
namespace Go.Ix
open Go.Proofs
noncomputable def x94:FnT:=λc h args m=>match args with
 |[t0,t1]=>x52 c h m.next t0 t1 ⟨m.hp,m.next+1⟩ 0
 |_=>none
noncomputable def x95:FnT:=λc h args m=>match args with
 |[t0]=>x53 c h m.next t0 ⟨m.hp,m.next+1⟩ 0
 |_=>none
noncomputable def x96:FnT:=λc h args m=>match args with
 |[t0,t1]=>x56 c h m.next t0 t1 ⟨m.hp,m.next+1⟩ 0
 |_=>none
noncomputable def x97:FnT:=λc h args m=>match args with
 |[t0]=>x57 c h m.next t0 ⟨m.hp,m.next+1⟩ 0
 |_=>none
noncomputable def x98:FnT:=λc h args m=>match args with
 |[t0]=>x58 c h m.next t0 ⟨m.hp,m.next+1⟩ 0
 |_=>none
noncomputable def x99:FnT:=λc h args m=>match args with
 |[t0]=>x59 c h m.next t0 ⟨m.hp,m.next+1⟩ 0
 |_=>none
noncomputable def x9a:FnT:=λc h args m=>match args with
 |[t0,t1]=>x5b c h m.next t0 t1 ⟨m.hp,m.next+1⟩ 0
 |_=>none
noncomputable def x4d:FnT:=λc h args m=>match args with
 |[t0]=>x39 c h m.next t0 ⟨m.hp,m.next+1⟩ 0
 |_=>none
noncomputable def x9b:FnT:=λc h args m=>match args with
 |[t0,t1]=>x5e c h m.next t0 t1 ⟨m.hp,m.next+1⟩ 0
 |_=>none
noncomputable def x4y:FnT:=λc h args m=>match args with
 |[t0,t1]=>x4i c h m.next t0 t1 ⟨m.hp,m.next+1⟩ 0
 |_=>none
noncomputable def x9c:FnT:=λc h args m=>match args with
 |[t0,t1,t2]=>x5j c h m.next t0 t1 t2 ⟨m.hp,m.next+1⟩ 0
 |_=>none
noncomputable def x9d:FnT:=λc h args m=>match args with
 |[t0,t1]=>x5l c h m.next t0 t1 ⟨m.hp,m.next+1⟩ 0
 |_=>none
noncomputable def x9e:FnT:=λc h args m=>match args with
 |[t0,t1,t2]=>x5m c h m.next t0 t1 t2 ⟨m.hp,m.next+1⟩ 0
 |_=>none
noncomputable def x9f:FnT:=λc h args m=>match args with
 |[t0]=>x5p c h m.next t0 ⟨m.hp,m.next+1⟩ 0
 |_=>none
noncomputable def x9g:FnT:=λc h args m=>match args with
 |[t0]=>x5r c h m.next t0 ⟨m.hp,m.next+1⟩ 0
 |_=>none
noncomputable def x9h:FnT:=λc h args m=>match args with
 |[t0]=>x5s c h m.next t0 ⟨m.hp,m.next+1⟩ 0
 |_=>none
noncomputable def x9i:FnT:=λc h args m=>match args with
 |[t0,t1,t2]=>x5t c h m.next t0 t1 t2 ⟨m.hp,m.next+1⟩ 0
 |_=>none
noncomputable def x9j:FnT:=λc h args m=>match args with
 |[t0,t1]=>x5v c h m.next t0 t1 ⟨m.hp,m.next+1⟩ 0
 |_=>none
noncomputable def x9k:FnT:=λc h args m=>match args with
 |[t0,t1]=>x5x c h m.next t0 t1 ⟨m.hp,m.next+1⟩ 0
 |_=>none
noncomputable def x9l:FnT:=λc h args m=>match args with
 |[t0,t1]=>x5z c h m.next t0 t1 ⟨m.hp,m.next+1⟩ 0
 |_=>none
noncomputable def x9m:FnT:=λc h args m=>match args with
 |[t0]=>x60 c h m.next t0 ⟨m.hp,m.next+1⟩ 0
 |_=>none
noncomputable def x9n:FnT:=λc h args m=>match args with
 |[t0]=>x65 c h m.next t0 ⟨m.hp,m.next+1⟩ 0
 |_=>none
noncomputable def x9o:FnT:=λc h args m=>match args with
 |[t0]=>x67 c h m.next t0 ⟨m.hp,m.next+1⟩ 0
 |_=>none
noncomputable def x9p:FnT:=λc h args m=>match args with
 |[t0,t1]=>x6a c h m.next t0 t1 ⟨m.hp,m.next+1⟩ 0
 |_=>none
noncomputable def x9q:FnT:=λc h args m=>match args with
 |[t0,t1]=>x6b c h m.next t0 t1 ⟨m.hp,m.next+1⟩ 0
 |_=>none
noncomputable def x9r:FnT:=λc h args m=>match args with
 |[t0,t1]=>x6c c h m.next t0 t1 ⟨m.hp,m.next+1⟩ 0
 |_=>none
noncomputable def x9s:FnT:=λc h args m=>match args with
 |[t0,t1]=>x6e c h m.next t0 t1 ⟨m.hp,m.next+1⟩ 0
 |_=>none
noncomputable def x9t:FnT:=λc h args m=>match args with
 |[t0,t1]=>x6j c h m.next t0 t1 ⟨m.hp,m.next+1⟩ 0
 |_=>none
noncomputable def x9u:FnT:=λc h args m=>match args with
 |[t0,t1]=>x6k c h m.next t0 t1 ⟨m.hp,m.next+1⟩ 0
 |_=>none
noncomputable def x9v:FnT:=λc h args m=>match args with
 |[t0,t1]=>x6m c h m.next t0 t1 ⟨m.hp,m.next+1⟩ 0
 |_=>none
noncomputable def x9w:FnT:=λc h args m=>match args with
 |[t0,t1]=>x6o c h m.next t0 t1 ⟨m.hp,m.next+1⟩ 0
 |_=>none
noncomputable def x9x:FnT:=λc h args m=>match args with
 |[t0,t1,t2,t3]=>x6t c h m.next t0 t1 t2 t3 ⟨m.hp,m.next+1⟩ 0
 |_=>none
noncomputable def x9y:FnT:=λc h args m=>match args with
 |[t0,t1]=>x6u c h m.next t0 t1 ⟨m.hp,m.next+1⟩ 0
 |_=>none
noncomputable def x9z:FnT:=λc h args m=>match args with
 |[t0]=>x6v c h m.next t0 ⟨m.hp,m.next+1⟩ 0
 |_=>none
noncomputable def xa0:FnT:=λc h args m=>match args with
 |[t0,t1]=>x6w c h m.next t0 t1 ⟨m.hp,m.next+1⟩ 0
 |_=>none
noncomputable def xa1:FnT:=λc h args m=>match args with
 |[t0]=>x6x c h m.next t0 ⟨m.hp,m.next+1⟩ 0
 |_=>none
noncomputable def xa2:FnT:=λc h args m=>match args with
 |[t0]=>x70 c h m.next t0 ⟨m.hp,m.next+1⟩ 0
 |_=>none
noncomputable def xa3:FnT:=λc h args m=>match args with
 |[t0]=>x73 c h m.next t0 ⟨m.hp,m.next+1⟩ 0
 |_=>none
noncomputable def xa4:FnT:=λc h args m=>match args with
 |[t0]=>x74 c h m.next t0 ⟨m.hp,m.next+1⟩ 0
 |_=>none
noncomputable def xa5:FnT:=λc h args m=>match args with
 |[t0]=>x75 c h m.next t0 ⟨m.hp,m.next+1⟩ 0
 |_=>none
noncomputable def xa6:FnT:=λc h args m=>match args with
 |[t0]=>x76 c h m.next t0 ⟨m.hp,m.next+1⟩ 0
 |_=>none
noncomputable def xa7:FnT:=λc h args m=>match args with
 |[t0]=>x79 c h m.next t0 ⟨m.hp,m.next+1⟩ 0
 |_=>none
noncomputable def xa8:FnT:=λc h args m=>match args with
 |[t0,t1,t2,t3,t4,t5,t6]=>x7b c h m.next t0 t1 t2 t3 t4 t5 t6 ⟨m.hp,m.next+1⟩ 0
 |_=>none
noncomputable def xa9:FnT:=λc h args m=>match args with
 |[t0,t1,t2]=>x7c c h m.next t0 t1 t2 ⟨m.hp,m.next+1⟩ 0
 |_=>none
noncomputable def xaa:FnT:=λc h args m=>match args with
 |[t0]=>x7e c h m.next t0 ⟨m.hp,m.next+1⟩ 0
 |_=>none
noncomputable def xab:FnT:=λc h args m=>match args with
 |[t0,t1]=>x7g c h m.next t0 t1 ⟨m.hp,m.next+1⟩ 0
 |_=>none
noncomputable def xac:FnT:=λc h args m=>match args with
 |[t0,t1]=>x7h c h m.next t0 t1 ⟨m.hp,m.next+1⟩ 0
 |_=>none
noncomputable def xad:FnT:=λc h args m=>match args with
 |[t0,t1]=>x7i c h m.next t0 t1 ⟨m.hp,m.next+1⟩ 0
 |_=>none
noncomputable def x93:FnT:=λc h args m=>match args with
 |[t0,t1]=>x7k c h m.next t0 t1 ⟨m.hp,m.next+1⟩ 0
 |_=>none
noncomputable def xae:FnT:=λc h args m=>match args with
 |[t0]=>x7n c h m.next t0 ⟨m.hp,m.next+1⟩ 0
 |_=>none
noncomputable def xaf:FnT:=λc h args m=>match args with
 |[t0,t1]=>x7o c h m.next t0 t1 ⟨m.hp,m.next+1⟩ 0
 |_=>none
noncomputable def xag:FnT:=λc h args m=>match args with
 |[t0]=>x7r c h m.next t0 ⟨m.hp,m.next+1⟩ 0
 |_=>none
noncomputable def xah:FnT:=λc h args m=>match args with
 |[t0]=>x7t c h m.next t0 ⟨m.hp,m.next+1⟩ 0
 |_=>none
noncomputable def xai:FnT:=λc h args m=>match args with
 |[t0,t1]=>x7u c h m.next t0 t1 ⟨m.hp,m.next+1⟩ 0
 |_=>none
noncomputable def xaj:FnT:=λc h args m=>match args with
 |[t0,t1]=>x7v c h m.next t0 t1 ⟨m.hp,m.next+1⟩ 0
 |_=>none
noncomputable def xak:FnT:=λc h args m=>match args with
 |[t0,t1,t2]=>x7w c h m.next t0 t1 t2 ⟨m.hp,m.next+1⟩ 0
 |_=>none
noncomputable def xal:FnT:=λc h args m=>match args with
 |[t0]=>x7x c h m.next t0 ⟨m.hp,m.next+1⟩ 0
 |_=>none
noncomputable def xam:FnT:=λc h args m=>match args with
 |[t0,t1,t2,t3]=>x80 c h m.next t0 t1 t2 t3 ⟨m.hp,m.next+1⟩ 0
 |_=>none
noncomputable def xan:FnT:=λc h args m=>match args with
 |[t0]=>x82 c h m.next t0 ⟨m.hp,m.next+1⟩ 0
 |_=>none
noncomputable def xao:FnT:=λc h args m=>match args with
 |[t0]=>x83 c h m.next t0 ⟨m.hp,m.next+1⟩ 0
 |_=>none
noncomputable def xap:FnT:=λc h args m=>match args with
 |[t0]=>x87 c h m.next t0 ⟨m.hp,m.next+1⟩ 0
 |_=>none
noncomputable def xaq:FnT:=λc h args m=>match args with
 |[t0]=>x8c c h m.next t0 ⟨m.hp,m.next+1⟩ 0
 |_=>none
noncomputable def xar:FnT:=λc h args m=>match args with
 |[t0,t1,t2]=>x8f c h m.next t0 t1 t2 ⟨m.hp,m.next+1⟩ 0
 |_=>none
noncomputable def xas:FnT:=λc h args m=>match args with
 |[t0,t1,t2,t3]=>x8h c h m.next t0 t1 t2 t3 ⟨m.hp,m.next+1⟩ 0
 |_=>none
noncomputable def xat:FnT:=λc h args m=>match args with
 |[t0]=>x8i c h m.next t0 ⟨m.hp,m.next+1⟩ 0
 |_=>none
noncomputable def xau:FnT:=λc h args m=>match args with
 |[t0]=>x8m c h m.next t0 ⟨m.hp,m.next+1⟩ 0
 |_=>none
noncomputable def xav:FnT:=λc h args m=>match args with
 |[t0,t1]=>x8n c h m.next t0 t1 ⟨m.hp,m.next+1⟩ 0
 |_=>none
noncomputable def xaw:FnT:=λc h args m=>match args with
 |[t0,t1]=>x8o c h m.next t0 t1 ⟨m.hp,m.next+1⟩ 0
 |_=>none
noncomputable def xax:FnT:=λc h args m=>match args with
 |[t0]=>x8q c h m.next t0 ⟨m.hp,m.next+1⟩ 0
 |_=>none
noncomputable def xf3:FnT:=λc h args m=>match args with
 |[t0,t1]=>xet c h m.next t0 t1 ⟨m.hp,m.next+1⟩ 0
 |_=>none
noncomputable def xay:FnT:=λc h args m=>match args with
 |[t0,t1,t2,t3]=>x8u c h m.next t0 t1 t2 t3 ⟨m.hp,m.next+1⟩ 0
 |_=>none
noncomputable def xaz:FnT:=λc h args m=>match args with
 |[t0,t1,t2]=>x8x c h m.next t0 t1 t2 ⟨m.hp,m.next+1⟩ 0
 |_=>none
noncomputable def xb0:FnT:=λc h args m=>match args with
 |[t0,t1]=>x8y c h m.next t0 t1 ⟨m.hp,m.next+1⟩ 0
 |_=>none
noncomputable def xb1:FnT:=λc h args m=>match args with
 |[t0]=>xez c h m.next t0 ⟨m.hp,m.next+1⟩ 0
 |_=>none
noncomputable def xb2:FnT:=λc h args m=>match args with
 |[t0,t1]=>x90 c h m.next t0 t1 ⟨m.hp,m.next+1⟩ 0
 |_=>none
noncomputable def xb3:FnT:=λc h args m=>match args with
 |[t0]=>x91 c h m.next t0 ⟨m.hp,m.next+1⟩ 0
 |_=>none
end Go.Ix
