import Derived.Test.YtjdlceelbnaneaaFxText0
set_option linter.unusedVariables false
namespace Go.Ix
open Go.Proofs
noncomputable def x4u:FnT:=λc h args m=>match args with
 |[t0,t1]=>x2x c h m.next t0 t1 ⟨m.hp,m.next+1⟩ 0
 |_=>none
noncomputable def x4v:FnT:=λc h args m=>match args with
 |[t0,t1,t2]=>x2y c h m.next t0 t1 t2 ⟨m.hp,m.next+1⟩ 0
 |_=>none
noncomputable def x4w:FnT:=λc h args m=>match args with
 |[t0]=>x30 c h m.next t0 ⟨m.hp,m.next+1⟩ 0
 |_=>none
noncomputable def x4x:FnT:=λc h args m=>match args with
 |[t0,t1]=>x31 c h m.next t0 t1 ⟨m.hp,m.next+1⟩ 0
 |_=>none
noncomputable def x4y:FnT:=λc h args m=>match args with
 |[t0,t1]=>x32 c h m.next t0 t1 ⟨m.hp,m.next+1⟩ 0
 |_=>none
noncomputable def x4z:FnT:=λc h args m=>match args with
 |[t0]=>x33 c h m.next t0 ⟨m.hp,m.next+1⟩ 0
 |_=>none
noncomputable def x50:FnT:=λc h args m=>match args with
 |[t0]=>x34 c h m.next t0 ⟨m.hp,m.next+1⟩ 0
 |_=>none
noncomputable def x51:FnT:=λc h args m=>match args with
 |[t0]=>x35 c h m.next t0 ⟨m.hp,m.next+1⟩ 0
 |_=>none
noncomputable def x52:FnT:=λc h args m=>match args with
 |[t0]=>x36 c h m.next t0 ⟨m.hp,m.next+1⟩ 0
 |_=>none
noncomputable def x53:FnT:=λc h args m=>match args with
 |[t0,t1]=>x38 c h m.next t0 t1 ⟨m.hp,m.next+1⟩ 0
 |_=>none
noncomputable def x54:FnT:=λc h args m=>match args with
 |[t0,t1,t2]=>x3d c h m.next t0 t1 t2 ⟨m.hp,m.next+1⟩ 0
 |_=>none
noncomputable def x55:FnT:=λc h args m=>match args with
 |[t0,t1]=>x3e c h m.next t0 t1 ⟨m.hp,m.next+1⟩ 0
 |_=>none
noncomputable def x56:FnT:=λc h args m=>match args with
 |[t0,t1,t2]=>x3f c h m.next t0 t1 t2 ⟨m.hp,m.next+1⟩ 0
 |_=>none
noncomputable def x57:FnT:=λc h args m=>match args with
 |[t0,t1]=>x3g c h m.next t0 t1 ⟨m.hp,m.next+1⟩ 0
 |_=>none
noncomputable def x58:FnT:=λc h args m=>match args with
 |[t0]=>x3i c h m.next t0 ⟨m.hp,m.next+1⟩ 0
 |_=>none
noncomputable def x59:FnT:=λc h args m=>match args with
 |[t0,t1,t2]=>x3j c h m.next t0 t1 t2 ⟨m.hp,m.next+1⟩ 0
 |_=>none
noncomputable def x2v:FnT:=λc h args m=>match args with
 |[t0,t1]=>x2i c h m.next t0 t1 ⟨m.hp,m.next+1⟩ 0
 |_=>none
noncomputable def x5a:FnT:=λc h args m=>match args with
 |[t0]=>x3m c h m.next t0 ⟨m.hp,m.next+1⟩ 0
 |_=>none
noncomputable def x5b:FnT:=λc h args m=>match args with
 |[t0,t1]=>x3s c h m.next t0 t1 ⟨m.hp,m.next+1⟩ 0
 |_=>none
noncomputable def x5c:FnT:=λc h args m=>match args with
 |[t0,t1,t2]=>x3t c h m.next t0 t1 t2 ⟨m.hp,m.next+1⟩ 0
 |_=>none
noncomputable def x5d:FnT:=λc h args m=>match args with
 |[t0,t1,t2,t3,t4]=>x3u c h m.next t0 t1 t2 t3 t4 ⟨m.hp,m.next+1⟩ 0
 |_=>none
noncomputable def x5e:FnT:=λc h args m=>match args with
 |[t0,t1,t2]=>x3v c h m.next t0 t1 t2 ⟨m.hp,m.next+1⟩ 0
 |_=>none
noncomputable def x5f:FnT:=λc h args m=>match args with
 |[t0]=>x3w c h m.next t0 ⟨m.hp,m.next+1⟩ 0
 |_=>none
noncomputable def x5g:FnT:=λc h args m=>match args with
 |[t0]=>x3x c h m.next t0 ⟨m.hp,m.next+1⟩ 0
 |_=>none
noncomputable def x5h:FnT:=λc h args m=>match args with
 |[t0,t1,t2]=>x42 c h m.next t0 t1 t2 ⟨m.hp,m.next+1⟩ 0
 |_=>none
noncomputable def x5i:FnT:=λc h args m=>match args with
 |[t0]=>x44 c h m.next t0 ⟨m.hp,m.next+1⟩ 0
 |_=>none
noncomputable def x5j:FnT:=λc h args m=>match args with
 |[t0,t1]=>x45 c h m.next t0 t1 ⟨m.hp,m.next+1⟩ 0
 |_=>none
noncomputable def x5k:FnT:=λc h args m=>match args with
 |[t0]=>x46 c h m.next t0 ⟨m.hp,m.next+1⟩ 0
 |_=>none
noncomputable def x5l:FnT:=λc h args m=>match args with
 |[t0,t1,t2]=>x47 c h m.next t0 t1 t2 ⟨m.hp,m.next+1⟩ 0
 |_=>none
noncomputable def x5m:FnT:=λc h args m=>match args with
 |[t0,t1]=>x4c c h m.next t0 t1 ⟨m.hp,m.next+1⟩ 0
 |_=>none
noncomputable def x5n:FnT:=λc h args m=>match args with
 |[t0]=>x4d c h m.next t0 ⟨m.hp,m.next+1⟩ 0
 |_=>none
noncomputable def x5o:FnT:=λc h args m=>match args with
 |[t0,t1]=>x4e c h m.next t0 t1 ⟨m.hp,m.next+1⟩ 0
 |_=>none
noncomputable def x2c:FnT:=λc h args m=>match args with
 |[t0,t1,t2]=>x28 c h m.next t0 t1 t2 ⟨m.hp,m.next+1⟩ 0
 |_=>none
noncomputable def x5p:FnT:=λc h args m=>match args with
 |[t0,t1]=>x4f c h m.next t0 t1 ⟨m.hp,m.next+1⟩ 0
 |_=>none
noncomputable def x5q:FnT:=λc h args m=>match args with
 |[t0,t1,t2]=>x4g c h m.next t0 t1 t2 ⟨m.hp,m.next+1⟩ 0
 |_=>none
noncomputable def x5r:FnT:=λc h args m=>match args with
 |[t0,t1]=>x4h c h m.next t0 t1 ⟨m.hp,m.next+1⟩ 0
 |_=>none
noncomputable def x5s:FnT:=λc h args m=>match args with
 |[t0,t1]=>x4i c h m.next t0 t1 ⟨m.hp,m.next+1⟩ 0
 |_=>none
noncomputable def x5t:FnT:=λc h args m=>match args with
 |[t0,t1,t2]=>x4j c h m.next t0 t1 t2 ⟨m.hp,m.next+1⟩ 0
 |_=>none
noncomputable def x5u:FnT:=λc h args m=>match args with
 |[t0,t1]=>x4l c h m.next t0 t1 ⟨m.hp,m.next+1⟩ 0
 |_=>none
noncomputable def x5v:FnT:=λc h args m=>match args with
 |[t0,t1,t2]=>x4m c h m.next t0 t1 t2 ⟨m.hp,m.next+1⟩ 0
 |_=>none
noncomputable def x5w:FnT:=λc h args m=>match args with
 |[t0,t1,t2]=>x4n c h m.next t0 t1 t2 ⟨m.hp,m.next+1⟩ 0
 |_=>none
noncomputable def x5x:FnT:=λc h args m=>match args with
 |[t0,t1]=>x4o c h m.next t0 t1 ⟨m.hp,m.next+1⟩ 0
 |_=>none
noncomputable def x5y:FnT:=λc h args m=>match args with
 |[t0]=>x4p c h m.next t0 ⟨m.hp,m.next+1⟩ 0
 |_=>none
noncomputable def x5z:FnT:=λc h args m=>match args with
 |[t0,t1]=>x4q c h m.next t0 t1 ⟨m.hp,m.next+1⟩ 0
 |_=>none
noncomputable def x60:FnT:=λc h args m=>match args with
 |[t0]=>x4r c h m.next t0 ⟨m.hp,m.next+1⟩ 0
 |_=>none
noncomputable def x61:FnT:=λc h args m=>match args with
 |[t0]=>x4s c h m.next t0 ⟨m.hp,m.next+1⟩ 0
 |_=>none
end Go.Ix
