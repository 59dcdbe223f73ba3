import Derived.Test.YtjdlceelbnaneaaFxText0
set_option linter.unusedVariables false
namespace Go.Ix
open Go.Proofs
noncomputable def x4e:FnT:=λc h args m=>match args with
 |[t0,t1,t2]=>x2v c h m.next t0 t1 t2 ⟨m.hp,m.next+1⟩ 0
 |_=>none
noncomputable def x4f:FnT:=λc h args m=>match args with
 |[t0]=>x2w c h m.next t0 ⟨m.hp,m.next+1⟩ 0
 |_=>none
noncomputable def x4g:FnT:=λc h args m=>match args with
 |[t0,t1,t2]=>x2x c h m.next t0 t1 t2 ⟨m.hp,m.next+1⟩ 0
 |_=>none
noncomputable def x4h:FnT:=λc h args m=>match args with
 |[t0]=>x2y c h m.next t0 ⟨m.hp,m.next+1⟩ 0
 |_=>none
noncomputable def x4i:FnT:=λc h args m=>match args with
 |[t0,t1,t2]=>x2z c h m.next t0 t1 t2 ⟨m.hp,m.next+1⟩ 0
 |_=>none
noncomputable def x4j:FnT:=λc h args m=>match args with
 |[t0,t1,t2]=>x30 c h m.next t0 t1 t2 ⟨m.hp,m.next+1⟩ 0
 |_=>none
noncomputable def x4k:FnT:=λc h args m=>match args with
 |[t0]=>x31 c h m.next t0 ⟨m.hp,m.next+1⟩ 0
 |_=>none
noncomputable def x4l:FnT:=λc h args m=>match args with
 |[t0,t1,t2,t3]=>x33 c h m.next t0 t1 t2 t3 ⟨m.hp,m.next+1⟩ 0
 |_=>none
noncomputable def x4m:FnT:=λc h args m=>match args with
 |[t0,t1]=>x34 c h m.next t0 t1 ⟨m.hp,m.next+1⟩ 0
 |_=>none
noncomputable def x4n:FnT:=λc h args m=>match args with
 |[t0]=>x35 c h m.next t0 ⟨m.hp,m.next+1⟩ 0
 |_=>none
noncomputable def x4o:FnT:=λc h args m=>match args with
 |[t0]=>x36 c h m.next t0 ⟨m.hp,m.next+1⟩ 0
 |_=>none
noncomputable def x4p:FnT:=λc h args m=>match args with
 |[t0,t1,t2]=>x37 c h m.next t0 t1 t2 ⟨m.hp,m.next+1⟩ 0
 |_=>none
noncomputable def x4q:FnT:=λc h args m=>match args with
 |[t0]=>x3b c h m.next t0 ⟨m.hp,m.next+1⟩ 0
 |_=>none
noncomputable def x4r:FnT:=λc h args m=>match args with
 |[t0,t1]=>x3c c h m.next t0 t1 ⟨m.hp,m.next+1⟩ 0
 |_=>none
noncomputable def x2t:FnT:=λc h args m=>match args with
 |[t0,t1,t2]=>x2i c h m.next t0 t1 t2 ⟨m.hp,m.next+1⟩ 0
 |_=>none
noncomputable def x4s:FnT:=λc h args m=>match args with
 |[t0]=>x3f c h m.next t0 ⟨m.hp,m.next+1⟩ 0
 |_=>none
noncomputable def x4t:FnT:=λc h args m=>match args with
 |[t0,t1,t2]=>x3g c h m.next t0 t1 t2 ⟨m.hp,m.next+1⟩ 0
 |_=>none
noncomputable def x4u:FnT:=λc h args m=>match args with
 |[t0,t1,t2]=>x3i c h m.next t0 t1 t2 ⟨m.hp,m.next+1⟩ 0
 |_=>none
noncomputable def x4v:FnT:=λc h args m=>match args with
 |[t0]=>x3j c h m.next t0 ⟨m.hp,m.next+1⟩ 0
 |_=>none
noncomputable def x4w:FnT:=λc h args m=>match args with
 |[t0,t1]=>x3k c h m.next t0 t1 ⟨m.hp,m.next+1⟩ 0
 |_=>none
noncomputable def x2u:FnT:=λc h args m=>match args with
 |[t0]=>x2l c h m.next t0 ⟨m.hp,m.next+1⟩ 0
 |_=>none
noncomputable def x4x:FnT:=λc h args m=>match args with
 |[t0,t1]=>x3l c h m.next t0 t1 ⟨m.hp,m.next+1⟩ 0
 |_=>none
noncomputable def x4y:FnT:=λc h args m=>match args with
 |[t0,t1]=>x3m c h m.next t0 t1 ⟨m.hp,m.next+1⟩ 0
 |_=>none
noncomputable def x4z:FnT:=λc h args m=>match args with
 |[t0]=>x3n c h m.next t0 ⟨m.hp,m.next+1⟩ 0
 |_=>none
noncomputable def x50:FnT:=λc h args m=>match args with
 |[t0,t1]=>x3p c h m.next t0 t1 ⟨m.hp,m.next+1⟩ 0
 |_=>none
noncomputable def x51:FnT:=λc h args m=>match args with
 |[t0,t1]=>x3q c h m.next t0 t1 ⟨m.hp,m.next+1⟩ 0
 |_=>none
noncomputable def x52:FnT:=λc h args m=>match args with
 |[t0]=>x3r c h m.next t0 ⟨m.hp,m.next+1⟩ 0
 |_=>none
noncomputable def x2c:FnT:=λc h args m=>match args with
 |[t0,t1,t2]=>x25 c h m.next t0 t1 t2 ⟨m.hp,m.next+1⟩ 0
 |_=>none
noncomputable def x53:FnT:=λc h args m=>match args with
 |[t0,t1,t2]=>x3t c h m.next t0 t1 t2 ⟨m.hp,m.next+1⟩ 0
 |_=>none
noncomputable def x54:FnT:=λc h args m=>match args with
 |[t0]=>x3u c h m.next t0 ⟨m.hp,m.next+1⟩ 0
 |_=>none
noncomputable def x55:FnT:=λc h args m=>match args with
 |[t0]=>x3w c h m.next t0 ⟨m.hp,m.next+1⟩ 0
 |_=>none
noncomputable def x56:FnT:=λc h args m=>match args with
 |[t0,t1]=>x3x c h m.next t0 t1 ⟨m.hp,m.next+1⟩ 0
 |_=>none
noncomputable def x57:FnT:=λc h args m=>match args with
 |[t0,t1]=>x3y c h m.next t0 t1 ⟨m.hp,m.next+1⟩ 0
 |_=>none
noncomputable def x58:FnT:=λc h args m=>match args with
 |[t0,t1]=>x40 c h m.next t0 t1 ⟨m.hp,m.next+1⟩ 0
 |_=>none
noncomputable def x59:FnT:=λc h args m=>match args with
 |[t0,t1,t2]=>x41 c h m.next t0 t1 t2 ⟨m.hp,m.next+1⟩ 0
 |_=>none
noncomputable def x5a:FnT:=λc h args m=>match args with
 |[t0,t1]=>x43 c h m.next t0 t1 ⟨m.hp,m.next+1⟩ 0
 |_=>none
noncomputable def x4d:FnT:=λc h args m=>match args with
 |[t0,t1]=>x44 c h m.next t0 t1 ⟨m.hp,m.next+1⟩ 0
 |_=>none
noncomputable def x5b:FnT:=λc h args m=>match args with
 |[t0,t1]=>x45 c h m.next t0 t1 ⟨m.hp,m.next+1⟩ 0
 |_=>none
noncomputable def x5c:FnT:=λc h args m=>match args with
 |[t0]=>x46 c h m.next t0 ⟨m.hp,m.next+1⟩ 0
 |_=>none
noncomputable def x5d:FnT:=λc h args m=>match args with
 |[t0,t1,t2]=>x47 c h m.next t0 t1 t2 ⟨m.hp,m.next+1⟩ 0
 |_=>none
noncomputable def x5e:FnT:=λc h args m=>match args with
 |[t0,t1]=>x48 c h m.next t0 t1 ⟨m.hp,m.next+1⟩ 0
 |_=>none
noncomputable def x5f:FnT:=λc h args m=>match args with
 |[t0]=>x49 c h m.next t0 ⟨m.hp,m.next+1⟩ 0
 |_=>none
noncomputable def x5g:FnT:=λc h args m=>match args with
 |[t0,t1]=>x4a c h m.next t0 t1 ⟨m.hp,m.next+1⟩ 0
 |_=>none
noncomputable def x5h:FnT:=λc h args m=>match args with
 |[t0]=>x4b c h m.next t0 ⟨m.hp,m.next+1⟩ 0
 |_=>none
noncomputable def x5i:FnT:=λc h args m=>match args with
 |[t0]=>x4c c h m.next t0 ⟨m.hp,m.next+1⟩ 0
 |_=>none
end Go.Ix
