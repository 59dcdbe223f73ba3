import Derived.Test.YtacloojepepcfaaFxText0
set_option linter.unusedVariables false
namespace Go.Ix
open Go.Proofs
noncomputable def x3s:FnT:=λc h args m=>match args with
 |[t0,t1,t2]=>x28 c h m.next t0 t1 t2 ⟨m.hp,m.next+1⟩ 0
 |_=>none
noncomputable def x25:FnT:=λc h args m=>match args with
 |[t0,t1]=>x1u c h m.next t0 t1 ⟨m.hp,m.next+1⟩ 0
 |_=>none
noncomputable def x3t:FnT:=λc h args m=>match args with
 |[t0]=>x29 c h m.next t0 ⟨m.hp,m.next+1⟩ 0
 |_=>none
noncomputable def x3u:FnT:=λc h args m=>match args with
 |[t0,t1,t2]=>x2b c h m.next t0 t1 t2 ⟨m.hp,m.next+1⟩ 0
 |_=>none
noncomputable def x3v:FnT:=λc h args m=>match args with
 |[t0]=>x2d c h m.next t0 ⟨m.hp,m.next+1⟩ 0
 |_=>none
noncomputable def x3w:FnT:=λc h args m=>match args with
 |[t0,t1]=>x2f c h m.next t0 t1 ⟨m.hp,m.next+1⟩ 0
 |_=>none
noncomputable def x26:FnT:=λc h args m=>match args with
 |[t0,t1,t2]=>x1y c h m.next t0 t1 t2 ⟨m.hp,m.next+1⟩ 0
 |_=>none
noncomputable def x3x:FnT:=λc h args m=>match args with
 |[t0,t1]=>x2r c h m.next t0 t1 ⟨m.hp,m.next+1⟩ 0
 |_=>none
noncomputable def x3y:FnT:=λc h args m=>match args with
 |[t0,t1]=>x2t c h m.next t0 t1 ⟨m.hp,m.next+1⟩ 0
 |_=>none
noncomputable def x3z:FnT:=λc h args m=>match args with
 |[t0,t1]=>x2u c h m.next t0 t1 ⟨m.hp,m.next+1⟩ 0
 |_=>none
noncomputable def x40:FnT:=λc h args m=>match args with
 |[t0]=>x2v c h m.next t0 ⟨m.hp,m.next+1⟩ 0
 |_=>none
noncomputable def x3p:FnT:=λc h args m=>match args with
 |[t0,t1,t2]=>x2w c h m.next t0 t1 t2 ⟨m.hp,m.next+1⟩ 0
 |_=>none
noncomputable def x41:FnT:=λc h args m=>match args with
 |[t0,t1]=>x2y c h m.next t0 t1 ⟨m.hp,m.next+1⟩ 0
 |_=>none
noncomputable def x27:FnT:=λc h args m=>match args with
 |[t0]=>x20 c h m.next t0 ⟨m.hp,m.next+1⟩ 0
 |_=>none
noncomputable def x42:FnT:=λc h args m=>match args with
 |[t0]=>x32 c h m.next t0 ⟨m.hp,m.next+1⟩ 0
 |_=>none
noncomputable def x43:FnT:=λc h args m=>match args with
 |[t0,t1]=>x38 c h m.next t0 t1 ⟨m.hp,m.next+1⟩ 0
 |_=>none
noncomputable def x44:FnT:=λc h args m=>match args with
 |[t0,t1]=>x39 c h m.next t0 t1 ⟨m.hp,m.next+1⟩ 0
 |_=>none
noncomputable def x45:FnT:=λc h args m=>match args with
 |[t0,t1,t2]=>x3a c h m.next t0 t1 t2 ⟨m.hp,m.next+1⟩ 0
 |_=>none
noncomputable def x46:FnT:=λc h args m=>match args with
 |[t0]=>x3b c h m.next t0 ⟨m.hp,m.next+1⟩ 0
 |_=>none
noncomputable def x47:FnT:=λc h args m=>match args with
 |[t0,t1,t2]=>x3c c h m.next t0 t1 t2 ⟨m.hp,m.next+1⟩ 0
 |_=>none
noncomputable def x48:FnT:=λc h args m=>match args with
 |[t0,t1]=>x3d c h m.next t0 t1 ⟨m.hp,m.next+1⟩ 0
 |_=>none
noncomputable def x65:FnT:=λc h args m=>match args with
 |[t0]=>x24 c h m.next t0 ⟨m.hp,m.next+1⟩ 0
 |_=>none
noncomputable def x3q:FnT:=λc h args m=>match args with
 |[t0]=>x3e c h m.next t0 ⟨m.hp,m.next+1⟩ 0
 |_=>none
noncomputable def x49:FnT:=λc h args m=>match args with
 |[t0,t1,t2]=>x3f c h m.next t0 t1 t2 ⟨m.hp,m.next+1⟩ 0
 |_=>none
noncomputable def x4a:FnT:=λc h args m=>match args with
 |[t0]=>x3i c h m.next t0 ⟨m.hp,m.next+1⟩ 0
 |_=>none
noncomputable def x4b:FnT:=λc h args m=>match args with
 |[t0,t1]=>x3j c h m.next t0 t1 ⟨m.hp,m.next+1⟩ 0
 |_=>none
noncomputable def x4c:FnT:=λc h args m=>match args with
 |[t0,t1]=>x3k c h m.next t0 t1 ⟨m.hp,m.next+1⟩ 0
 |_=>none
noncomputable def x3r:FnT:=λc h args m=>match args with
 |[t0,t1]=>x3m c h m.next t0 t1 ⟨m.hp,m.next+1⟩ 0
 |_=>none
noncomputable def x4d:FnT:=λc h args m=>match args with
 |[t0,t1]=>x3o c h m.next t0 t1 ⟨m.hp,m.next+1⟩ 0
 |_=>none
end Go.Ix
