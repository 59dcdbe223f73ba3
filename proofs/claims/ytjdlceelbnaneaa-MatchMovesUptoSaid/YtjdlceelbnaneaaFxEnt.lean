import Derived.Test.YtjdlceelbnaneaaFxText0
set_option linter.unusedVariables false
namespace Go.Ix
open Go.Proofs
noncomputable def x3t:FnT:=λc h args m=>match args with
 |[t0,t1,t2]=>x2e c h m.next t0 t1 t2 ⟨m.hp,m.next+1⟩ 0
 |_=>none
noncomputable def x3u:FnT:=λc h args m=>match args with
 |[t0,t1,t2]=>x2h c h m.next t0 t1 t2 ⟨m.hp,m.next+1⟩ 0
 |_=>none
noncomputable def x3v:FnT:=λc h args m=>match args with
 |[t0]=>x2i c h m.next t0 ⟨m.hp,m.next+1⟩ 0
 |_=>none
noncomputable def x3w:FnT:=λc h args m=>match args with
 |[t0]=>x2j c h m.next t0 ⟨m.hp,m.next+1⟩ 0
 |_=>none
noncomputable def x3x:FnT:=λc h args m=>match args with
 |[t0]=>x2k c h m.next t0 ⟨m.hp,m.next+1⟩ 0
 |_=>none
noncomputable def x3y:FnT:=λc h args m=>match args with
 |[t0]=>x2l c h m.next t0 ⟨m.hp,m.next+1⟩ 0
 |_=>none
noncomputable def x3z:FnT:=λc h args m=>match args with
 |[t0,t1]=>x2n c h m.next t0 t1 ⟨m.hp,m.next+1⟩ 0
 |_=>none
noncomputable def x40:FnT:=λc h args m=>match args with
 |[t0,t1]=>x2o c h m.next t0 t1 ⟨m.hp,m.next+1⟩ 0
 |_=>none
noncomputable def x41:FnT:=λc h args m=>match args with
 |[t0,t1,t2]=>x2p c h m.next t0 t1 t2 ⟨m.hp,m.next+1⟩ 0
 |_=>none
noncomputable def x42:FnT:=λc h args m=>match args with
 |[t0]=>x2s c h m.next t0 ⟨m.hp,m.next+1⟩ 0
 |_=>none
noncomputable def x43:FnT:=λc h args m=>match args with
 |[t0,t1]=>x2t c h m.next t0 t1 ⟨m.hp,m.next+1⟩ 0
 |_=>none
noncomputable def x44:FnT:=λc h args m=>match args with
 |[t0,t1,t2]=>x2u c h m.next t0 t1 t2 ⟨m.hp,m.next+1⟩ 0
 |_=>none
noncomputable def x45:FnT:=λc h args m=>match args with
 |[t0,t1,t2,t3,t4]=>x2v c h m.next t0 t1 t2 t3 t4 ⟨m.hp,m.next+1⟩ 0
 |_=>none
noncomputable def x46:FnT:=λc h args m=>match args with
 |[t0,t1,t2]=>x2w c h m.next t0 t1 t2 ⟨m.hp,m.next+1⟩ 0
 |_=>none
noncomputable def x47:FnT:=λc h args m=>match args with
 |[t0]=>x2x c h m.next t0 ⟨m.hp,m.next+1⟩ 0
 |_=>none
noncomputable def x48:FnT:=λc h args m=>match args with
 |[t0]=>x2y c h m.next t0 ⟨m.hp,m.next+1⟩ 0
 |_=>none
noncomputable def x49:FnT:=λc h args m=>match args with
 |[t0,t1,t2]=>x33 c h m.next t0 t1 t2 ⟨m.hp,m.next+1⟩ 0
 |_=>none
noncomputable def x4a:FnT:=λc h args m=>match args with
 |[t0]=>x35 c h m.next t0 ⟨m.hp,m.next+1⟩ 0
 |_=>none
noncomputable def x4b:FnT:=λc h args m=>match args with
 |[t0]=>x36 c h m.next t0 ⟨m.hp,m.next+1⟩ 0
 |_=>none
noncomputable def x4c:FnT:=λc h args m=>match args with
 |[t0,t1,t2]=>x37 c h m.next t0 t1 t2 ⟨m.hp,m.next+1⟩ 0
 |_=>none
noncomputable def x4d:FnT:=λc h args m=>match args with
 |[t0,t1]=>x3c c h m.next t0 t1 ⟨m.hp,m.next+1⟩ 0
 |_=>none
noncomputable def x4e:FnT:=λc h args m=>match args with
 |[t0]=>x3d c h m.next t0 ⟨m.hp,m.next+1⟩ 0
 |_=>none
noncomputable def x4f:FnT:=λc h args m=>match args with
 |[t0,t1]=>x3e c h m.next t0 t1 ⟨m.hp,m.next+1⟩ 0
 |_=>none
noncomputable def x1x:FnT:=λc h args m=>match args with
 |[t0,t1,t2]=>x1t c h m.next t0 t1 t2 ⟨m.hp,m.next+1⟩ 0
 |_=>none
noncomputable def x4g:FnT:=λc h args m=>match args with
 |[t0,t1]=>x3f c h m.next t0 t1 ⟨m.hp,m.next+1⟩ 0
 |_=>none
noncomputable def x4h:FnT:=λc h args m=>match args with
 |[t0,t1,t2]=>x3g c h m.next t0 t1 t2 ⟨m.hp,m.next+1⟩ 0
 |_=>none
noncomputable def x4i:FnT:=λc h args m=>match args with
 |[t0,t1]=>x3h c h m.next t0 t1 ⟨m.hp,m.next+1⟩ 0
 |_=>none
noncomputable def x4j:FnT:=λc h args m=>match args with
 |[t0,t1]=>x3i c h m.next t0 t1 ⟨m.hp,m.next+1⟩ 0
 |_=>none
noncomputable def x4k:FnT:=λc h args m=>match args with
 |[t0,t1,t2]=>x3j c h m.next t0 t1 t2 ⟨m.hp,m.next+1⟩ 0
 |_=>none
noncomputable def x4l:FnT:=λc h args m=>match args with
 |[t0,t1]=>x3l c h m.next t0 t1 ⟨m.hp,m.next+1⟩ 0
 |_=>none
noncomputable def x4m:FnT:=λc h args m=>match args with
 |[t0,t1,t2]=>x3m c h m.next t0 t1 t2 ⟨m.hp,m.next+1⟩ 0
 |_=>none
noncomputable def x4n:FnT:=λc h args m=>match args with
 |[t0,t1,t2]=>x3n c h m.next t0 t1 t2 ⟨m.hp,m.next+1⟩ 0
 |_=>none
noncomputable def x4o:FnT:=λc h args m=>match args with
 |[t0,t1]=>x3o c h m.next t0 t1 ⟨m.hp,m.next+1⟩ 0
 |_=>none
noncomputable def x4p:FnT:=λc h args m=>match args with
 |[t0]=>x3p c h m.next t0 ⟨m.hp,m.next+1⟩ 0
 |_=>none
noncomputable def x4q:FnT:=λc h args m=>match args with
 |[t0,t1]=>x3q c h m.next t0 t1 ⟨m.hp,m.next+1⟩ 0
 |_=>none
noncomputable def x4r:FnT:=λc h args m=>match args with
 |[t0]=>x3r c h m.next t0 ⟨m.hp,m.next+1⟩ 0
 |_=>none
noncomputable def x4s:FnT:=λc h args m=>match args with
 |[t0]=>x3s c h m.next t0 ⟨m.hp,m.next+1⟩ 0
 |_=>none
end Go.Ix
