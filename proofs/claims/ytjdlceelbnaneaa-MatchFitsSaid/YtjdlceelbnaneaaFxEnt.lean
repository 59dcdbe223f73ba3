import Derived.Test.YtjdlceelbnaneaaFxText0
set_option linter.unusedVariables false
namespace Go.Ix
open Go.Proofs
noncomputable def x3z:FnT:=λc h args m=>match args with
 |[t0,t1]=>x2l c h m.next t0 t1 ⟨m.hp,m.next+1⟩ 0
 |_=>none
noncomputable def x40:FnT:=λc h args m=>match args with
 |[t0,t1,t2]=>x2m c h m.next t0 t1 t2 ⟨m.hp,m.next+1⟩ 0
 |_=>none
noncomputable def x41:FnT:=λc h args m=>match args with
 |[t0]=>x2n c h m.next t0 ⟨m.hp,m.next+1⟩ 0
 |_=>none
noncomputable def x42:FnT:=λc h args m=>match args with
 |[t0]=>x2o c h m.next t0 ⟨m.hp,m.next+1⟩ 0
 |_=>none
noncomputable def x43:FnT:=λc h args m=>match args with
 |[t0]=>x2p c h m.next t0 ⟨m.hp,m.next+1⟩ 0
 |_=>none
noncomputable def x2i:FnT:=λc h args m=>match args with
 |[t0]=>x1y c h m.next t0 ⟨m.hp,m.next+1⟩ 0
 |_=>none
noncomputable def x44:FnT:=λc h args m=>match args with
 |[t0]=>x2r c h m.next t0 ⟨m.hp,m.next+1⟩ 0
 |_=>none
noncomputable def x45:FnT:=λc h args m=>match args with
 |[t0]=>x2t c h m.next t0 ⟨m.hp,m.next+1⟩ 0
 |_=>none
noncomputable def x46:FnT:=λc h args m=>match args with
 |[t0]=>x2u c h m.next t0 ⟨m.hp,m.next+1⟩ 0
 |_=>none
noncomputable def x47:FnT:=λc h args m=>match args with
 |[t0]=>x2v c h m.next t0 ⟨m.hp,m.next+1⟩ 0
 |_=>none
noncomputable def x48:FnT:=λc h args m=>match args with
 |[t0,t1]=>x2y c h m.next t0 t1 ⟨m.hp,m.next+1⟩ 0
 |_=>none
noncomputable def x49:FnT:=λc h args m=>match args with
 |[t0,t1]=>x32 c h m.next t0 t1 ⟨m.hp,m.next+1⟩ 0
 |_=>none
noncomputable def x4a:FnT:=λc h args m=>match args with
 |[t0]=>x38 c h m.next t0 ⟨m.hp,m.next+1⟩ 0
 |_=>none
noncomputable def x4b:FnT:=λc h args m=>match args with
 |[t0]=>x3d c h m.next t0 ⟨m.hp,m.next+1⟩ 0
 |_=>none
noncomputable def x4c:FnT:=λc h args m=>match args with
 |[t0]=>x3f c h m.next t0 ⟨m.hp,m.next+1⟩ 0
 |_=>none
noncomputable def x4d:FnT:=λc h args m=>match args with
 |[t0]=>x3h c h m.next t0 ⟨m.hp,m.next+1⟩ 0
 |_=>none
noncomputable def x4e:FnT:=λc h args m=>match args with
 |[t0,t1]=>x3j c h m.next t0 t1 ⟨m.hp,m.next+1⟩ 0
 |_=>none
noncomputable def x4f:FnT:=λc h args m=>match args with
 |[t0,t1,t2]=>x3k c h m.next t0 t1 t2 ⟨m.hp,m.next+1⟩ 0
 |_=>none
noncomputable def x4g:FnT:=λc h args m=>match args with
 |[t0]=>x3l c h m.next t0 ⟨m.hp,m.next+1⟩ 0
 |_=>none
noncomputable def x4h:FnT:=λc h args m=>match args with
 |[t0]=>x3p c h m.next t0 ⟨m.hp,m.next+1⟩ 0
 |_=>none
noncomputable def x4i:FnT:=λc h args m=>match args with
 |[t0]=>x3t c h m.next t0 ⟨m.hp,m.next+1⟩ 0
 |_=>none
noncomputable def x2j:FnT:=λc h args m=>match args with
 |[t0]=>x2h c h m.next t0 ⟨m.hp,m.next+1⟩ 0
 |_=>none
noncomputable def x4j:FnT:=λc h args m=>match args with
 |[t0]=>x3u c h m.next t0 ⟨m.hp,m.next+1⟩ 0
 |_=>none
noncomputable def x4k:FnT:=λc h args m=>match args with
 |[t0]=>x3v c h m.next t0 ⟨m.hp,m.next+1⟩ 0
 |_=>none
noncomputable def x4l:FnT:=λc h args m=>match args with
 |[t0,t1]=>x3x c h m.next t0 t1 ⟨m.hp,m.next+1⟩ 0
 |_=>none
noncomputable def x4m:FnT:=λc h args m=>match args with
 |[t0]=>x3y c h m.next t0 ⟨m.hp,m.next+1⟩ 0
 |_=>none
end Go.Ix
