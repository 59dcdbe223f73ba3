import Derived.Test.YtjdlceelbnaneaaFxText0
set_option linter.unusedVariables false
namespace Go.Ix
open Go.Proofs
noncomputable def x5u:FnT:=λc h args m=>match args with
 |[t0,t1,t2]=>x3n c h m.next t0 t1 t2 ⟨m.hp,m.next+1⟩ 0
 |_=>none
noncomputable def x5v:FnT:=λc h args m=>match args with
 |[t0]=>x3p c h m.next t0 ⟨m.hp,m.next+1⟩ 0
 |_=>none
noncomputable def x5w:FnT:=λc h args m=>match args with
 |[t0]=>x3q c h m.next t0 ⟨m.hp,m.next+1⟩ 0
 |_=>none
noncomputable def x5x:FnT:=λc h args m=>match args with
 |[t0,t1]=>x3r c h m.next t0 t1 ⟨m.hp,m.next+1⟩ 0
 |_=>none
noncomputable def x5y:FnT:=λc h args m=>match args with
 |[t0,t1,t2]=>x3w c h m.next t0 t1 t2 ⟨m.hp,m.next+1⟩ 0
 |_=>none
noncomputable def x5z:FnT:=λc h args m=>match args with
 |[t0,t1,t2]=>x3x c h m.next t0 t1 t2 ⟨m.hp,m.next+1⟩ 0
 |_=>none
noncomputable def x3k:FnT:=λc h args m=>match args with
 |[t0,t1,t2]=>x30 c h m.next t0 t1 t2 ⟨m.hp,m.next+1⟩ 0
 |_=>none
noncomputable def x60:FnT:=λc h args m=>match args with
 |[t0,t1,t2]=>x42 c h m.next t0 t1 t2 ⟨m.hp,m.next+1⟩ 0
 |_=>none
noncomputable def x61:FnT:=λc h args m=>match args with
 |[t0]=>x43 c h m.next t0 ⟨m.hp,m.next+1⟩ 0
 |_=>none
noncomputable def x62:FnT:=λc h args m=>match args with
 |[t0,t1,t2,t3]=>x45 c h m.next t0 t1 t2 t3 ⟨m.hp,m.next+1⟩ 0
 |_=>none
noncomputable def x63:FnT:=λc h args m=>match args with
 |[t0,t1]=>x46 c h m.next t0 t1 ⟨m.hp,m.next+1⟩ 0
 |_=>none
noncomputable def x64:FnT:=λc h args m=>match args with
 |[t0]=>x47 c h m.next t0 ⟨m.hp,m.next+1⟩ 0
 |_=>none
noncomputable def x65:FnT:=λc h args m=>match args with
 |[t0]=>x48 c h m.next t0 ⟨m.hp,m.next+1⟩ 0
 |_=>none
noncomputable def x66:FnT:=λc h args m=>match args with
 |[t0]=>x49 c h m.next t0 ⟨m.hp,m.next+1⟩ 0
 |_=>none
noncomputable def x67:FnT:=λc h args m=>match args with
 |[t0,t1,t2]=>x4a c h m.next t0 t1 t2 ⟨m.hp,m.next+1⟩ 0
 |_=>none
noncomputable def x68:FnT:=λc h args m=>match args with
 |[t0,t1]=>x4b c h m.next t0 t1 ⟨m.hp,m.next+1⟩ 0
 |_=>none
noncomputable def x69:FnT:=λc h args m=>match args with
 |[t0,t1,t2]=>x4c c h m.next t0 t1 t2 ⟨m.hp,m.next+1⟩ 0
 |_=>none
noncomputable def x6a:FnT:=λc h args m=>match args with
 |[t0]=>x4g c h m.next t0 ⟨m.hp,m.next+1⟩ 0
 |_=>none
noncomputable def x6b:FnT:=λc h args m=>match args with
 |[t0,t1]=>x4h c h m.next t0 t1 ⟨m.hp,m.next+1⟩ 0
 |_=>none
noncomputable def x3l:FnT:=λc h args m=>match args with
 |[t0,t1,t2]=>x38 c h m.next t0 t1 t2 ⟨m.hp,m.next+1⟩ 0
 |_=>none
noncomputable def x6c:FnT:=λc h args m=>match args with
 |[t0]=>x4k c h m.next t0 ⟨m.hp,m.next+1⟩ 0
 |_=>none
noncomputable def x6d:FnT:=λc h args m=>match args with
 |[t0]=>x4l c h m.next t0 ⟨m.hp,m.next+1⟩ 0
 |_=>none
noncomputable def x6e:FnT:=λc h args m=>match args with
 |[t0,t1,t2,t3,t4]=>x4m c h m.next t0 t1 t2 t3 t4 ⟨m.hp,m.next+1⟩ 0
 |_=>none
noncomputable def x6f:FnT:=λc h args m=>match args with
 |[t0,t1]=>x4o c h m.next t0 t1 ⟨m.hp,m.next+1⟩ 0
 |_=>none
noncomputable def x6g:FnT:=λc h args m=>match args with
 |[t0,t1,t2]=>x4p c h m.next t0 t1 t2 ⟨m.hp,m.next+1⟩ 0
 |_=>none
noncomputable def x6h:FnT:=λc h args m=>match args with
 |[t0,t1,t2]=>x4r c h m.next t0 t1 t2 ⟨m.hp,m.next+1⟩ 0
 |_=>none
noncomputable def x6i:FnT:=λc h args m=>match args with
 |[t0]=>x4s c h m.next t0 ⟨m.hp,m.next+1⟩ 0
 |_=>none
noncomputable def x6j:FnT:=λc h args m=>match args with
 |[t0]=>x4u c h m.next t0 ⟨m.hp,m.next+1⟩ 0
 |_=>none
noncomputable def x6k:FnT:=λc h args m=>match args with
 |[t0]=>x4v c h m.next t0 ⟨m.hp,m.next+1⟩ 0
 |_=>none
noncomputable def x6l:FnT:=λc h args m=>match args with
 |[t0,t1]=>x4w c h m.next t0 t1 ⟨m.hp,m.next+1⟩ 0
 |_=>none
noncomputable def x3m:FnT:=λc h args m=>match args with
 |[t0]=>x3c c h m.next t0 ⟨m.hp,m.next+1⟩ 0
 |_=>none
noncomputable def x6m:FnT:=λc h args m=>match args with
 |[t0,t1]=>x4x c h m.next t0 t1 ⟨m.hp,m.next+1⟩ 0
 |_=>none
noncomputable def x6n:FnT:=λc h args m=>match args with
 |[t0,t1]=>x4y c h m.next t0 t1 ⟨m.hp,m.next+1⟩ 0
 |_=>none
noncomputable def x6o:FnT:=λc h args m=>match args with
 |[t0]=>x4z c h m.next t0 ⟨m.hp,m.next+1⟩ 0
 |_=>none
noncomputable def x6p:FnT:=λc h args m=>match args with
 |[t0,t1]=>x51 c h m.next t0 t1 ⟨m.hp,m.next+1⟩ 0
 |_=>none
noncomputable def x6q:FnT:=λc h args m=>match args with
 |[t0,t1]=>x52 c h m.next t0 t1 ⟨m.hp,m.next+1⟩ 0
 |_=>none
noncomputable def x6r:FnT:=λc h args m=>match args with
 |[t0]=>x53 c h m.next t0 ⟨m.hp,m.next+1⟩ 0
 |_=>none
noncomputable def x2y:FnT:=λc h args m=>match args with
 |[t0,t1,t2]=>x2r c h m.next t0 t1 t2 ⟨m.hp,m.next+1⟩ 0
 |_=>none
noncomputable def x6s:FnT:=λc h args m=>match args with
 |[t0,t1,t2]=>x54 c h m.next t0 t1 t2 ⟨m.hp,m.next+1⟩ 0
 |_=>none
noncomputable def x6t:FnT:=λc h args m=>match args with
 |[t0,t1]=>x55 c h m.next t0 t1 ⟨m.hp,m.next+1⟩ 0
 |_=>none
noncomputable def x6u:FnT:=λc h args m=>match args with
 |[t0,t1,t2]=>x57 c h m.next t0 t1 t2 ⟨m.hp,m.next+1⟩ 0
 |_=>none
noncomputable def x6v:FnT:=λc h args m=>match args with
 |[t0]=>x58 c h m.next t0 ⟨m.hp,m.next+1⟩ 0
 |_=>none
noncomputable def x6w:FnT:=λc h args m=>match args with
 |[t0]=>x5a c h m.next t0 ⟨m.hp,m.next+1⟩ 0
 |_=>none
noncomputable def x6x:FnT:=λc h args m=>match args with
 |[t0,t1]=>x5b c h m.next t0 t1 ⟨m.hp,m.next+1⟩ 0
 |_=>none
noncomputable def x6y:FnT:=λc h args m=>match args with
 |[t0,t1]=>x5c c h m.next t0 t1 ⟨m.hp,m.next+1⟩ 0
 |_=>none
noncomputable def x6z:FnT:=λc h args m=>match args with
 |[t0,t1]=>x5e c h m.next t0 t1 ⟨m.hp,m.next+1⟩ 0
 |_=>none
noncomputable def x70:FnT:=λc h args m=>match args with
 |[t0,t1,t2]=>x5f c h m.next t0 t1 t2 ⟨m.hp,m.next+1⟩ 0
 |_=>none
noncomputable def x71:FnT:=λc h args m=>match args with
 |[t0,t1]=>x5h c h m.next t0 t1 ⟨m.hp,m.next+1⟩ 0
 |_=>none
noncomputable def x72:FnT:=λc h args m=>match args with
 |[t0,t1,t2]=>x5i c h m.next t0 t1 t2 ⟨m.hp,m.next+1⟩ 0
 |_=>none
noncomputable def x5t:FnT:=λc h args m=>match args with
 |[t0,t1]=>x5j c h m.next t0 t1 ⟨m.hp,m.next+1⟩ 0
 |_=>none
noncomputable def x73:FnT:=λc h args m=>match args with
 |[t0,t1]=>x5k c h m.next t0 t1 ⟨m.hp,m.next+1⟩ 0
 |_=>none
noncomputable def x74:FnT:=λc h args m=>match args with
 |[t0]=>x5l c h m.next t0 ⟨m.hp,m.next+1⟩ 0
 |_=>none
noncomputable def x75:FnT:=λc h args m=>match args with
 |[t0,t1,t2]=>x5m c h m.next t0 t1 t2 ⟨m.hp,m.next+1⟩ 0
 |_=>none
noncomputable def x76:FnT:=λc h args m=>match args with
 |[t0,t1]=>x5n c h m.next t0 t1 ⟨m.hp,m.next+1⟩ 0
 |_=>none
noncomputable def x77:FnT:=λc h args m=>match args with
 |[t0]=>x5o c h m.next t0 ⟨m.hp,m.next+1⟩ 0
 |_=>none
noncomputable def x78:FnT:=λc h args m=>match args with
 |[t0]=>x5p c h m.next t0 ⟨m.hp,m.next+1⟩ 0
 |_=>none
noncomputable def x79:FnT:=λc h args m=>match args with
 |[t0,t1]=>x5q c h m.next t0 t1 ⟨m.hp,m.next+1⟩ 0
 |_=>none
noncomputable def x7a:FnT:=λc h args m=>match args with
 |[t0]=>x5r c h m.next t0 ⟨m.hp,m.next+1⟩ 0
 |_=>none
noncomputable def x7b:FnT:=λc h args m=>match args with
 |[t0]=>x5s c h m.next t0 ⟨m.hp,m.next+1⟩ 0
 |_=>none
end Go.Ix
