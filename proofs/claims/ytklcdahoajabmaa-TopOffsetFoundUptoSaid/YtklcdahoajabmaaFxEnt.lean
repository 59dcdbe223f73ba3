import Derived.Test.YtklcdahoajabmaaFxText0
set_option linter.unusedVariables false
namespace Go.Ix
open Go.Proofs
noncomputable def x60:FnT:=λc h args m=>match args with
 |[t0,t1,t2]=>x3r c h m.next t0 t1 t2 ⟨m.hp,m.next+1⟩ 0
 |_=>none
noncomputable def x61:FnT:=λc h args m=>match args with
 |[t0]=>x3s c h m.next t0 ⟨m.hp,m.next+1⟩ 0
 |_=>none
noncomputable def x62:FnT:=λc h args m=>match args with
 |[t0]=>x3t c h m.next t0 ⟨m.hp,m.next+1⟩ 0
 |_=>none
noncomputable def x63:FnT:=λc h args m=>match args with
 |[t0,t1]=>x3u c h m.next t0 t1 ⟨m.hp,m.next+1⟩ 0
 |_=>none
noncomputable def x64:FnT:=λc h args m=>match args with
 |[t0,t1,t2]=>x3v c h m.next t0 t1 t2 ⟨m.hp,m.next+1⟩ 0
 |_=>none
noncomputable def x65:FnT:=λc h args m=>match args with
 |[t0,t1]=>x3w c h m.next t0 t1 ⟨m.hp,m.next+1⟩ 0
 |_=>none
noncomputable def x66:FnT:=λc h args m=>match args with
 |[t0]=>x3x c h m.next t0 ⟨m.hp,m.next+1⟩ 0
 |_=>none
noncomputable def x3m:FnT:=λc h args m=>match args with
 |[t0]=>x31 c h m.next t0 ⟨m.hp,m.next+1⟩ 0
 |_=>none
noncomputable def x67:FnT:=λc h args m=>match args with
 |[t0,t1,t2]=>x3y c h m.next t0 t1 t2 ⟨m.hp,m.next+1⟩ 0
 |_=>none
noncomputable def x68:FnT:=λc h args m=>match args with
 |[t0,t1,t2]=>x3z c h m.next t0 t1 t2 ⟨m.hp,m.next+1⟩ 0
 |_=>none
noncomputable def x69:FnT:=λc h args m=>match args with
 |[t0]=>x40 c h m.next t0 ⟨m.hp,m.next+1⟩ 0
 |_=>none
noncomputable def x6a:FnT:=λc h args m=>match args with
 |[t0,t1]=>x42 c h m.next t0 t1 ⟨m.hp,m.next+1⟩ 0
 |_=>none
noncomputable def x6b:FnT:=λc h args m=>match args with
 |[t0,t1]=>x43 c h m.next t0 t1 ⟨m.hp,m.next+1⟩ 0
 |_=>none
noncomputable def x6c:FnT:=λc h args m=>match args with
 |[t0,t1,t2]=>x44 c h m.next t0 t1 t2 ⟨m.hp,m.next+1⟩ 0
 |_=>none
noncomputable def x6d:FnT:=λc h args m=>match args with
 |[t0]=>x46 c h m.next t0 ⟨m.hp,m.next+1⟩ 0
 |_=>none
noncomputable def x6e:FnT:=λc h args m=>match args with
 |[t0,t1,t2,t3,t4]=>x47 c h m.next t0 t1 t2 t3 t4 ⟨m.hp,m.next+1⟩ 0
 |_=>none
noncomputable def x6f:FnT:=λc h args m=>match args with
 |[t0]=>x48 c h m.next t0 ⟨m.hp,m.next+1⟩ 0
 |_=>none
noncomputable def x6g:FnT:=λc h args m=>match args with
 |[t0]=>x49 c h m.next t0 ⟨m.hp,m.next+1⟩ 0
 |_=>none
noncomputable def x6h:FnT:=λc h args m=>match args with
 |[t0,t1,t2]=>x4a c h m.next t0 t1 t2 ⟨m.hp,m.next+1⟩ 0
 |_=>none
noncomputable def x6i:FnT:=λc h args m=>match args with
 |[t0]=>x4c c h m.next t0 ⟨m.hp,m.next+1⟩ 0
 |_=>none
noncomputable def x6j:FnT:=λc h args m=>match args with
 |[t0,t1]=>x4h c h m.next t0 t1 ⟨m.hp,m.next+1⟩ 0
 |_=>none
noncomputable def x6k:FnT:=λc h args m=>match args with
 |[t0,t1,t2]=>x4i c h m.next t0 t1 t2 ⟨m.hp,m.next+1⟩ 0
 |_=>none
noncomputable def x6l:FnT:=λc h args m=>match args with
 |[t0,t1]=>x4k c h m.next t0 t1 ⟨m.hp,m.next+1⟩ 0
 |_=>none
noncomputable def x6m:FnT:=λc h args m=>match args with
 |[t0]=>x4n c h m.next t0 ⟨m.hp,m.next+1⟩ 0
 |_=>none
noncomputable def x6n:FnT:=λc h args m=>match args with
 |[t0,t1]=>x4o c h m.next t0 t1 ⟨m.hp,m.next+1⟩ 0
 |_=>none
noncomputable def x3n:FnT:=λc h args m=>match args with
 |[t0,t1,t2]=>x38 c h m.next t0 t1 t2 ⟨m.hp,m.next+1⟩ 0
 |_=>none
noncomputable def x6o:FnT:=λc h args m=>match args with
 |[t0]=>x4r c h m.next t0 ⟨m.hp,m.next+1⟩ 0
 |_=>none
noncomputable def x6p:FnT:=λc h args m=>match args with
 |[t0,t1,t2]=>x4t c h m.next t0 t1 t2 ⟨m.hp,m.next+1⟩ 0
 |_=>none
noncomputable def x6q:FnT:=λc h args m=>match args with
 |[t0,t1]=>x4u c h m.next t0 t1 ⟨m.hp,m.next+1⟩ 0
 |_=>none
noncomputable def x6r:FnT:=λc h args m=>match args with
 |[t0,t1]=>x4v c h m.next t0 t1 ⟨m.hp,m.next+1⟩ 0
 |_=>none
noncomputable def x6s:FnT:=λc h args m=>match args with
 |[t0,t1]=>x4x c h m.next t0 t1 ⟨m.hp,m.next+1⟩ 0
 |_=>none
noncomputable def x6t:FnT:=λc h args m=>match args with
 |[t0,t1,t2]=>x4y c h m.next t0 t1 t2 ⟨m.hp,m.next+1⟩ 0
 |_=>none
noncomputable def x6u:FnT:=λc h args m=>match args with
 |[t0,t1]=>x4z c h m.next t0 t1 ⟨m.hp,m.next+1⟩ 0
 |_=>none
noncomputable def x6v:FnT:=λc h args m=>match args with
 |[t0,t1,t2]=>x50 c h m.next t0 t1 t2 ⟨m.hp,m.next+1⟩ 0
 |_=>none
noncomputable def x6w:FnT:=λc h args m=>match args with
 |[t0,t1,t2]=>x55 c h m.next t0 t1 t2 ⟨m.hp,m.next+1⟩ 0
 |_=>none
noncomputable def x6x:FnT:=λc h args m=>match args with
 |[t0,t1,t2]=>x56 c h m.next t0 t1 t2 ⟨m.hp,m.next+1⟩ 0
 |_=>none
noncomputable def x6y:FnT:=λc h args m=>match args with
 |[t0,t1]=>x57 c h m.next t0 t1 ⟨m.hp,m.next+1⟩ 0
 |_=>none
noncomputable def x6z:FnT:=λc h args m=>match args with
 |[t0,t1]=>x58 c h m.next t0 t1 ⟨m.hp,m.next+1⟩ 0
 |_=>none
noncomputable def x70:FnT:=λc h args m=>match args with
 |[t0,t1]=>x59 c h m.next t0 t1 ⟨m.hp,m.next+1⟩ 0
 |_=>none
noncomputable def x3o:FnT:=λc h args m=>match args with
 |[t0]=>x3f c h m.next t0 ⟨m.hp,m.next+1⟩ 0
 |_=>none
noncomputable def x71:FnT:=λc h args m=>match args with
 |[t0]=>x5a c h m.next t0 ⟨m.hp,m.next+1⟩ 0
 |_=>none
noncomputable def x72:FnT:=λc h args m=>match args with
 |[t0,t1]=>x5c c h m.next t0 t1 ⟨m.hp,m.next+1⟩ 0
 |_=>none
noncomputable def x73:FnT:=λc h args m=>match args with
 |[t0,t1]=>x5d c h m.next t0 t1 ⟨m.hp,m.next+1⟩ 0
 |_=>none
noncomputable def x74:FnT:=λc h args m=>match args with
 |[t0,t1,t2]=>x5f c h m.next t0 t1 t2 ⟨m.hp,m.next+1⟩ 0
 |_=>none
noncomputable def x30:FnT:=λc h args m=>match args with
 |[t0,t1,t2]=>x2w c h m.next t0 t1 t2 ⟨m.hp,m.next+1⟩ 0
 |_=>none
noncomputable def x75:FnT:=λc h args m=>match args with
 |[t0,t1,t2]=>x5g c h m.next t0 t1 t2 ⟨m.hp,m.next+1⟩ 0
 |_=>none
noncomputable def x76:FnT:=λc h args m=>match args with
 |[t0,t1]=>x5h c h m.next t0 t1 ⟨m.hp,m.next+1⟩ 0
 |_=>none
noncomputable def x77:FnT:=λc h args m=>match args with
 |[t0,t1]=>x5i c h m.next t0 t1 ⟨m.hp,m.next+1⟩ 0
 |_=>none
noncomputable def x78:FnT:=λc h args m=>match args with
 |[t0,t1]=>x5j c h m.next t0 t1 ⟨m.hp,m.next+1⟩ 0
 |_=>none
noncomputable def x79:FnT:=λc h args m=>match args with
 |[t0,t1]=>x5k c h m.next t0 t1 ⟨m.hp,m.next+1⟩ 0
 |_=>none
noncomputable def x7a:FnT:=λc h args m=>match args with
 |[t0]=>x5l c h m.next t0 ⟨m.hp,m.next+1⟩ 0
 |_=>none
noncomputable def x7b:FnT:=λc h args m=>match args with
 |[t0]=>x5m c h m.next t0 ⟨m.hp,m.next+1⟩ 0
 |_=>none
noncomputable def x7c:FnT:=λc h args m=>match args with
 |[t0]=>x5n c h m.next t0 ⟨m.hp,m.next+1⟩ 0
 |_=>none
noncomputable def x7d:FnT:=λc h args m=>match args with
 |[t0]=>x5p c h m.next t0 ⟨m.hp,m.next+1⟩ 0
 |_=>none
noncomputable def x7e:FnT:=λc h args m=>match args with
 |[t0,t1]=>x5q c h m.next t0 t1 ⟨m.hp,m.next+1⟩ 0
 |_=>none
noncomputable def x7f:FnT:=λc h args m=>match args with
 |[t0,t1]=>x5r c h m.next t0 t1 ⟨m.hp,m.next+1⟩ 0
 |_=>none
noncomputable def x7g:FnT:=λc h args m=>match args with
 |[t0,t1]=>x5t c h m.next t0 t1 ⟨m.hp,m.next+1⟩ 0
 |_=>none
noncomputable def x7h:FnT:=λc h args m=>match args with
 |[t0]=>x5u c h m.next t0 ⟨m.hp,m.next+1⟩ 0
 |_=>none
noncomputable def x5z:FnT:=λc h args m=>match args with
 |[t0,t1]=>x5v c h m.next t0 t1 ⟨m.hp,m.next+1⟩ 0
 |_=>none
noncomputable def x7i:FnT:=λc h args m=>match args with
 |[t0,t1]=>x5w c h m.next t0 t1 ⟨m.hp,m.next+1⟩ 0
 |_=>none
noncomputable def x7j:FnT:=λc h args m=>match args with
 |[t0]=>x5x c h m.next t0 ⟨m.hp,m.next+1⟩ 0
 |_=>none
noncomputable def x7k:FnT:=λc h args m=>match args with
 |[t0]=>x5y c h m.next t0 ⟨m.hp,m.next+1⟩ 0
 |_=>none
end Go.Ix
