import Derived.Test.YtifmaegopmkaoaaGreatFxText0
set_option linter.unusedVariables false
namespace Go.Ix
open Go.Proofs
noncomputable def x7q:FnT:=λc h args m=>match args with
 |[t0,t1]=>x51 c h m.next t0 t1 ⟨m.hp,m.next+1⟩ 0
 |_=>none
noncomputable def x7r:FnT:=λc h args m=>match args with
 |[t0]=>x53 c h m.next t0 ⟨m.hp,m.next+1⟩ 0
 |_=>none
noncomputable def x7s:FnT:=λc h args m=>match args with
 |[t0]=>x54 c h m.next t0 ⟨m.hp,m.next+1⟩ 0
 |_=>none
noncomputable def x4u:FnT:=λc h args m=>match args with
 |[t0,t1]=>x3u c h m.next t0 t1 ⟨m.hp,m.next+1⟩ 0
 |_=>none
noncomputable def x3p:FnT:=λc h args m=>match args with
 |[t0,t1]=>x36 c h m.next t0 t1 ⟨m.hp,m.next+1⟩ 0
 |_=>none
noncomputable def x7t:FnT:=λc h args m=>match args with
 |[t0]=>x55 c h m.next t0 ⟨m.hp,m.next+1⟩ 0
 |_=>none
noncomputable def x7u:FnT:=λc h args m=>match args with
 |[t0]=>x56 c h m.next t0 ⟨m.hp,m.next+1⟩ 0
 |_=>none
noncomputable def x7v:FnT:=λc h args m=>match args with
 |[t0]=>x57 c h m.next t0 ⟨m.hp,m.next+1⟩ 0
 |_=>none
noncomputable def x4v:FnT:=λc h args m=>match args with
 |[t0,t1]=>x41 c h m.next t0 t1 ⟨m.hp,m.next+1⟩ 0
 |_=>none
noncomputable def x4w:FnT:=λc h args m=>match args with
 |[t0,t1]=>x43 c h m.next t0 t1 ⟨m.hp,m.next+1⟩ 0
 |_=>none
noncomputable def x7w:FnT:=λc h args m=>match args with
 |[t0,t1]=>x5c c h m.next t0 t1 ⟨m.hp,m.next+1⟩ 0
 |_=>none
noncomputable def x7x:FnT:=λc h args m=>match args with
 |[t0,t1,t2]=>x5d c h m.next t0 t1 t2 ⟨m.hp,m.next+1⟩ 0
 |_=>none
noncomputable def x7y:FnT:=λc h args m=>match args with
 |[t0]=>x5e c h m.next t0 ⟨m.hp,m.next+1⟩ 0
 |_=>none
noncomputable def x7z:FnT:=λc h args m=>match args with
 |[t0]=>x5f c h m.next t0 ⟨m.hp,m.next+1⟩ 0
 |_=>none
noncomputable def x3q:FnT:=λc h args m=>match args with
 |[t0,t1]=>x39 c h m.next t0 t1 ⟨m.hp,m.next+1⟩ 0
 |_=>none
noncomputable def x80:FnT:=λc h args m=>match args with
 |[t0,t1,t2]=>x5j c h m.next t0 t1 t2 ⟨m.hp,m.next+1⟩ 0
 |_=>none
noncomputable def x81:FnT:=λc h args m=>match args with
 |[t0]=>x5k c h m.next t0 ⟨m.hp,m.next+1⟩ 0
 |_=>none
noncomputable def x82:FnT:=λc h args m=>match args with
 |[t0]=>x5l c h m.next t0 ⟨m.hp,m.next+1⟩ 0
 |_=>none
noncomputable def x83:FnT:=λc h args m=>match args with
 |[t0,t1,t2]=>x5m c h m.next t0 t1 t2 ⟨m.hp,m.next+1⟩ 0
 |_=>none
noncomputable def x84:FnT:=λc h args m=>match args with
 |[t0,t1,t2]=>x5n c h m.next t0 t1 t2 ⟨m.hp,m.next+1⟩ 0
 |_=>none
noncomputable def x85:FnT:=λc h args m=>match args with
 |[t0]=>x5o c h m.next t0 ⟨m.hp,m.next+1⟩ 0
 |_=>none
noncomputable def x86:FnT:=λc h args m=>match args with
 |[t0,t1,t2]=>x5t c h m.next t0 t1 t2 ⟨m.hp,m.next+1⟩ 0
 |_=>none
noncomputable def x87:FnT:=λc h args m=>match args with
 |[t0,t1,t2,t3]=>x5v c h m.next t0 t1 t2 t3 ⟨m.hp,m.next+1⟩ 0
 |_=>none
noncomputable def x88:FnT:=λc h args m=>match args with
 |[t0]=>x5y c h m.next t0 ⟨m.hp,m.next+1⟩ 0
 |_=>none
noncomputable def x89:FnT:=λc h args m=>match args with
 |[t0]=>x62 c h m.next t0 ⟨m.hp,m.next+1⟩ 0
 |_=>none
noncomputable def x4x:FnT:=λc h args m=>match args with
 |[t0,t1,t2]=>x4e c h m.next t0 t1 t2 ⟨m.hp,m.next+1⟩ 0
 |_=>none
noncomputable def x8a:FnT:=λc h args m=>match args with
 |[t0]=>x65 c h m.next t0 ⟨m.hp,m.next+1⟩ 0
 |_=>none
noncomputable def x8b:FnT:=λc h args m=>match args with
 |[t0,t1]=>x66 c h m.next t0 t1 ⟨m.hp,m.next+1⟩ 0
 |_=>none
noncomputable def x7p:FnT:=λc h args m=>match args with
 |[t0,t1]=>x67 c h m.next t0 t1 ⟨m.hp,m.next+1⟩ 0
 |_=>none
noncomputable def x4y:FnT:=λc h args m=>match args with
 |[t0,t1,t2]=>x4h c h m.next t0 t1 t2 ⟨m.hp,m.next+1⟩ 0
 |_=>none
noncomputable def x8c:FnT:=λc h args m=>match args with
 |[t0]=>x6f c h m.next t0 ⟨m.hp,m.next+1⟩ 0
 |_=>none
noncomputable def x8d:FnT:=λc h args m=>match args with
 |[t0]=>x6g c h m.next t0 ⟨m.hp,m.next+1⟩ 0
 |_=>none
noncomputable def x8e:FnT:=λc h args m=>match args with
 |[t0,t1,t2]=>x6l c h m.next t0 t1 t2 ⟨m.hp,m.next+1⟩ 0
 |_=>none
noncomputable def x8f:FnT:=λc h args m=>match args with
 |[t0,t1]=>x6m c h m.next t0 t1 ⟨m.hp,m.next+1⟩ 0
 |_=>none
noncomputable def x8g:FnT:=λc h args m=>match args with
 |[t0]=>x6n c h m.next t0 ⟨m.hp,m.next+1⟩ 0
 |_=>none
noncomputable def x8h:FnT:=λc h args m=>match args with
 |[t0,t1]=>x6p c h m.next t0 t1 ⟨m.hp,m.next+1⟩ 0
 |_=>none
noncomputable def x8i:FnT:=λc h args m=>match args with
 |[t0,t1]=>x6q c h m.next t0 t1 ⟨m.hp,m.next+1⟩ 0
 |_=>none
noncomputable def x8j:FnT:=λc h args m=>match args with
 |[t0,t1]=>x6r c h m.next t0 t1 ⟨m.hp,m.next+1⟩ 0
 |_=>none
noncomputable def x8k:FnT:=λc h args m=>match args with
 |[t0,t1]=>x6s c h m.next t0 t1 ⟨m.hp,m.next+1⟩ 0
 |_=>none
noncomputable def x8l:FnT:=λc h args m=>match args with
 |[t0]=>x6t c h m.next t0 ⟨m.hp,m.next+1⟩ 0
 |_=>none
noncomputable def x8m:FnT:=λc h args m=>match args with
 |[t0]=>x6u c h m.next t0 ⟨m.hp,m.next+1⟩ 0
 |_=>none
noncomputable def x3r:FnT:=λc h args m=>match args with
 |[t0,t1,t2]=>x3j c h m.next t0 t1 t2 ⟨m.hp,m.next+1⟩ 0
 |_=>none
noncomputable def x8n:FnT:=λc h args m=>match args with
 |[t0]=>x6v c h m.next t0 ⟨m.hp,m.next+1⟩ 0
 |_=>none
noncomputable def x8o:FnT:=λc h args m=>match args with
 |[t0]=>x6x c h m.next t0 ⟨m.hp,m.next+1⟩ 0
 |_=>none
noncomputable def x8p:FnT:=λc h args m=>match args with
 |[t0,t1]=>x6y c h m.next t0 t1 ⟨m.hp,m.next+1⟩ 0
 |_=>none
noncomputable def x8q:FnT:=λc h args m=>match args with
 |[t0,t1]=>x6z c h m.next t0 t1 ⟨m.hp,m.next+1⟩ 0
 |_=>none
noncomputable def x8r:FnT:=λc h args m=>match args with
 |[t0,t1]=>x71 c h m.next t0 t1 ⟨m.hp,m.next+1⟩ 0
 |_=>none
noncomputable def x8s:FnT:=λc h args m=>match args with
 |[t0]=>x72 c h m.next t0 ⟨m.hp,m.next+1⟩ 0
 |_=>none
noncomputable def x8t:FnT:=λc h args m=>match args with
 |[t0,t1,t2]=>x73 c h m.next t0 t1 t2 ⟨m.hp,m.next+1⟩ 0
 |_=>none
noncomputable def x8u:FnT:=λc h args m=>match args with
 |[t0,t1]=>x74 c h m.next t0 t1 ⟨m.hp,m.next+1⟩ 0
 |_=>none
noncomputable def x8v:FnT:=λc h args m=>match args with
 |[t0,t1,t2,t3,t4]=>x75 c h m.next t0 t1 t2 t3 t4 ⟨m.hp,m.next+1⟩ 0
 |_=>none
noncomputable def x8w:FnT:=λc h args m=>match args with
 |[t0,t1,t2]=>x76 c h m.next t0 t1 t2 ⟨m.hp,m.next+1⟩ 0
 |_=>none
noncomputable def x8x:FnT:=λc h args m=>match args with
 |[t0,t1,t2]=>x78 c h m.next t0 t1 t2 ⟨m.hp,m.next+1⟩ 0
 |_=>none
noncomputable def x8y:FnT:=λc h args m=>match args with
 |[t0,t1,t2]=>x79 c h m.next t0 t1 t2 ⟨m.hp,m.next+1⟩ 0
 |_=>none
noncomputable def x8z:FnT:=λc h args m=>match args with
 |[t0,t1]=>x7b c h m.next t0 t1 ⟨m.hp,m.next+1⟩ 0
 |_=>none
noncomputable def x90:FnT:=λc h args m=>match args with
 |[t0,t1]=>x7c c h m.next t0 t1 ⟨m.hp,m.next+1⟩ 0
 |_=>none
noncomputable def x91:FnT:=λc h args m=>match args with
 |[t0]=>x7d c h m.next t0 ⟨m.hp,m.next+1⟩ 0
 |_=>none
noncomputable def x92:FnT:=λc h args m=>match args with
 |[t0]=>x7e c h m.next t0 ⟨m.hp,m.next+1⟩ 0
 |_=>none
noncomputable def x93:FnT:=λc h args m=>match args with
 |[t0,t1,t2]=>x7f c h m.next t0 t1 t2 ⟨m.hp,m.next+1⟩ 0
 |_=>none
noncomputable def x94:FnT:=λc h args m=>match args with
 |[t0]=>x7g c h m.next t0 ⟨m.hp,m.next+1⟩ 0
 |_=>none
noncomputable def x95:FnT:=λc h args m=>match args with
 |[t0,t1,t2]=>x7h c h m.next t0 t1 t2 ⟨m.hp,m.next+1⟩ 0
 |_=>none
noncomputable def x96:FnT:=λc h args m=>match args with
 |[t0,t1]=>x7i c h m.next t0 t1 ⟨m.hp,m.next+1⟩ 0
 |_=>none
noncomputable def x97:FnT:=λc h args m=>match args with
 |[t0]=>x7j c h m.next t0 ⟨m.hp,m.next+1⟩ 0
 |_=>none
noncomputable def x98:FnT:=λc h args m=>match args with
 |[t0]=>x7k c h m.next t0 ⟨m.hp,m.next+1⟩ 0
 |_=>none
noncomputable def x99:FnT:=λc h args m=>match args with
 |[t0,t1]=>x7l c h m.next t0 t1 ⟨m.hp,m.next+1⟩ 0
 |_=>none
noncomputable def x9a:FnT:=λc h args m=>match args with
 |[t0]=>x7m c h m.next t0 ⟨m.hp,m.next+1⟩ 0
 |_=>none
noncomputable def x9b:FnT:=λc h args m=>match args with
 |[t0]=>x7n c h m.next t0 ⟨m.hp,m.next+1⟩ 0
 |_=>none
end Go.Ix
