import Derived.Test.YtjdlceelbnaneaaFxText0
set_option linter.unusedVariables false
namespace Go.Ix
open Go.Proofs
noncomputable def x48:FnT:=λc h args m=>match args with
 |[t0,t1,t2]=>x2m c h m.next t0 t1 t2 ⟨m.hp,m.next+1⟩ 0
 |_=>none
noncomputable def x49:FnT:=λc h args m=>match args with
 |[t0]=>x2o c h m.next t0 ⟨m.hp,m.next+1⟩ 0
 |_=>none
noncomputable def x4a:FnT:=λc h args m=>match args with
 |[t0,t1,t2]=>x2p c h m.next t0 t1 t2 ⟨m.hp,m.next+1⟩ 0
 |_=>none
noncomputable def x4b:FnT:=λc h args m=>match args with
 |[t0]=>x2q c h m.next t0 ⟨m.hp,m.next+1⟩ 0
 |_=>none
noncomputable def x4c:FnT:=λc h args m=>match args with
 |[t0,t1]=>x2r c h m.next t0 t1 ⟨m.hp,m.next+1⟩ 0
 |_=>none
noncomputable def x4d:FnT:=λc h args m=>match args with
 |[t0,t1,t2]=>x2w c h m.next t0 t1 t2 ⟨m.hp,m.next+1⟩ 0
 |_=>none
noncomputable def x4e:FnT:=λc h args m=>match args with
 |[t0,t1,t2]=>x2x c h m.next t0 t1 t2 ⟨m.hp,m.next+1⟩ 0
 |_=>none
noncomputable def x4f:FnT:=λc h args m=>match args with
 |[t0]=>x2y c h m.next t0 ⟨m.hp,m.next+1⟩ 0
 |_=>none
noncomputable def x4g:FnT:=λc h args m=>match args with
 |[t0]=>x2z c h m.next t0 ⟨m.hp,m.next+1⟩ 0
 |_=>none
noncomputable def x4h:FnT:=λc h args m=>match args with
 |[t0]=>x30 c h m.next t0 ⟨m.hp,m.next+1⟩ 0
 |_=>none
noncomputable def x4i:FnT:=λc h args m=>match args with
 |[t0]=>x31 c h m.next t0 ⟨m.hp,m.next+1⟩ 0
 |_=>none
noncomputable def x4j:FnT:=λc h args m=>match args with
 |[t0,t1,t2]=>x32 c h m.next t0 t1 t2 ⟨m.hp,m.next+1⟩ 0
 |_=>none
noncomputable def x4k:FnT:=λc h args m=>match args with
 |[t0,t1]=>x33 c h m.next t0 t1 ⟨m.hp,m.next+1⟩ 0
 |_=>none
noncomputable def x4l:FnT:=λc h args m=>match args with
 |[t0,t1,t2]=>x34 c h m.next t0 t1 t2 ⟨m.hp,m.next+1⟩ 0
 |_=>none
noncomputable def x4m:FnT:=λc h args m=>match args with
 |[t0]=>x38 c h m.next t0 ⟨m.hp,m.next+1⟩ 0
 |_=>none
noncomputable def x4n:FnT:=λc h args m=>match args with
 |[t0,t1]=>x39 c h m.next t0 t1 ⟨m.hp,m.next+1⟩ 0
 |_=>none
noncomputable def x2k:FnT:=λc h args m=>match args with
 |[t0,t1,t2]=>x2a c h m.next t0 t1 t2 ⟨m.hp,m.next+1⟩ 0
 |_=>none
noncomputable def x4o:FnT:=λc h args m=>match args with
 |[t0]=>x3c c h m.next t0 ⟨m.hp,m.next+1⟩ 0
 |_=>none
noncomputable def x4p:FnT:=λc h args m=>match args with
 |[t0]=>x3d c h m.next t0 ⟨m.hp,m.next+1⟩ 0
 |_=>none
noncomputable def x4q:FnT:=λc h args m=>match args with
 |[t0,t1,t2,t3,t4]=>x3e c h m.next t0 t1 t2 t3 t4 ⟨m.hp,m.next+1⟩ 0
 |_=>none
noncomputable def x4r:FnT:=λc h args m=>match args with
 |[t0,t1]=>x3g c h m.next t0 t1 ⟨m.hp,m.next+1⟩ 0
 |_=>none
noncomputable def x4s:FnT:=λc h args m=>match args with
 |[t0,t1,t2]=>x3h c h m.next t0 t1 t2 ⟨m.hp,m.next+1⟩ 0
 |_=>none
noncomputable def x4t:FnT:=λc h args m=>match args with
 |[t0]=>x3i c h m.next t0 ⟨m.hp,m.next+1⟩ 0
 |_=>none
noncomputable def x4u:FnT:=λc h args m=>match args with
 |[t0]=>x3k c h m.next t0 ⟨m.hp,m.next+1⟩ 0
 |_=>none
noncomputable def x4v:FnT:=λc h args m=>match args with
 |[t0]=>x3l c h m.next t0 ⟨m.hp,m.next+1⟩ 0
 |_=>none
noncomputable def x4w:FnT:=λc h args m=>match args with
 |[t0,t1]=>x3m c h m.next t0 t1 ⟨m.hp,m.next+1⟩ 0
 |_=>none
noncomputable def x2l:FnT:=λc h args m=>match args with
 |[t0]=>x2c c h m.next t0 ⟨m.hp,m.next+1⟩ 0
 |_=>none
noncomputable def x4x:FnT:=λc h args m=>match args with
 |[t0,t1]=>x3n c h m.next t0 t1 ⟨m.hp,m.next+1⟩ 0
 |_=>none
noncomputable def x4y:FnT:=λc h args m=>match args with
 |[t0,t1]=>x3o c h m.next t0 t1 ⟨m.hp,m.next+1⟩ 0
 |_=>none
noncomputable def x4z:FnT:=λc h args m=>match args with
 |[t0]=>x3p c h m.next t0 ⟨m.hp,m.next+1⟩ 0
 |_=>none
noncomputable def x50:FnT:=λc h args m=>match args with
 |[t0,t1]=>x3r c h m.next t0 t1 ⟨m.hp,m.next+1⟩ 0
 |_=>none
noncomputable def x51:FnT:=λc h args m=>match args with
 |[t0]=>x3s c h m.next t0 ⟨m.hp,m.next+1⟩ 0
 |_=>none
noncomputable def x24:FnT:=λc h args m=>match args with
 |[t0,t1,t2]=>x1y c h m.next t0 t1 t2 ⟨m.hp,m.next+1⟩ 0
 |_=>none
noncomputable def x52:FnT:=λc h args m=>match args with
 |[t0,t1,t2]=>x3t c h m.next t0 t1 t2 ⟨m.hp,m.next+1⟩ 0
 |_=>none
noncomputable def x53:FnT:=λc h args m=>match args with
 |[t0,t1]=>x3u c h m.next t0 t1 ⟨m.hp,m.next+1⟩ 0
 |_=>none
noncomputable def x54:FnT:=λc h args m=>match args with
 |[t0,t1,t2]=>x3w c h m.next t0 t1 t2 ⟨m.hp,m.next+1⟩ 0
 |_=>none
noncomputable def x55:FnT:=λc h args m=>match args with
 |[t0,t1,t2]=>x3x c h m.next t0 t1 t2 ⟨m.hp,m.next+1⟩ 0
 |_=>none
noncomputable def x56:FnT:=λc h args m=>match args with
 |[t0,t1]=>x3z c h m.next t0 t1 ⟨m.hp,m.next+1⟩ 0
 |_=>none
noncomputable def x57:FnT:=λc h args m=>match args with
 |[t0,t1,t2]=>x40 c h m.next t0 t1 t2 ⟨m.hp,m.next+1⟩ 0
 |_=>none
noncomputable def x58:FnT:=λc h args m=>match args with
 |[t0,t1,t2]=>x41 c h m.next t0 t1 t2 ⟨m.hp,m.next+1⟩ 0
 |_=>none
noncomputable def x59:FnT:=λc h args m=>match args with
 |[t0,t1]=>x42 c h m.next t0 t1 ⟨m.hp,m.next+1⟩ 0
 |_=>none
noncomputable def x5a:FnT:=λc h args m=>match args with
 |[t0]=>x43 c h m.next t0 ⟨m.hp,m.next+1⟩ 0
 |_=>none
noncomputable def x5b:FnT:=λc h args m=>match args with
 |[t0,t1]=>x44 c h m.next t0 t1 ⟨m.hp,m.next+1⟩ 0
 |_=>none
noncomputable def x5c:FnT:=λc h args m=>match args with
 |[t0]=>x45 c h m.next t0 ⟨m.hp,m.next+1⟩ 0
 |_=>none
noncomputable def x5d:FnT:=λc h args m=>match args with
 |[t0]=>x46 c h m.next t0 ⟨m.hp,m.next+1⟩ 0
 |_=>none
end Go.Ix
