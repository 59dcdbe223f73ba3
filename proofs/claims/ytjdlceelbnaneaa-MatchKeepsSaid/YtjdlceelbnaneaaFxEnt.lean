import Derived.Test.YtjdlceelbnaneaaFxText0
set_option linter.unusedVariables false
namespace Go.Ix
open Go.Proofs
noncomputable def x2w:FnT:=λc h args m=>match args with
 |[t0,t1]=>x1q c h m.next t0 t1 ⟨m.hp,m.next+1⟩ 0
 |_=>none
noncomputable def x2x:FnT:=λc h args m=>match args with
 |[t0,t1,t2]=>x1r c h m.next t0 t1 t2 ⟨m.hp,m.next+1⟩ 0
 |_=>none
noncomputable def x2y:FnT:=λc h args m=>match args with
 |[t0]=>x1s c h m.next t0 ⟨m.hp,m.next+1⟩ 0
 |_=>none
noncomputable def x1o:FnT:=λc h args m=>match args with
 |[t0]=>x1h c h m.next t0 ⟨m.hp,m.next+1⟩ 0
 |_=>none
noncomputable def x2z:FnT:=λc h args m=>match args with
 |[t0]=>x1t c h m.next t0 ⟨m.hp,m.next+1⟩ 0
 |_=>none
noncomputable def x30:FnT:=λc h args m=>match args with
 |[t0]=>x1v c h m.next t0 ⟨m.hp,m.next+1⟩ 0
 |_=>none
noncomputable def x31:FnT:=λc h args m=>match args with
 |[t0]=>x1w c h m.next t0 ⟨m.hp,m.next+1⟩ 0
 |_=>none
noncomputable def x1g:FnT:=λc h args m=>match args with
 |[t0,t1]=>x18 c h m.next t0 t1 ⟨m.hp,m.next+1⟩ 0
 |_=>none
noncomputable def x32:FnT:=λc h args m=>match args with
 |[t0]=>x1y c h m.next t0 ⟨m.hp,m.next+1⟩ 0
 |_=>none
noncomputable def x33:FnT:=λc h args m=>match args with
 |[t0]=>x26 c h m.next t0 ⟨m.hp,m.next+1⟩ 0
 |_=>none
noncomputable def x34:FnT:=λc h args m=>match args with
 |[t0,t1]=>x28 c h m.next t0 t1 ⟨m.hp,m.next+1⟩ 0
 |_=>none
noncomputable def x1p:FnT:=λc h args m=>match args with
 |[t0,t1]=>x1k c h m.next t0 t1 ⟨m.hp,m.next+1⟩ 0
 |_=>none
noncomputable def x35:FnT:=λc h args m=>match args with
 |[t0,t1,t2]=>x2b c h m.next t0 t1 t2 ⟨m.hp,m.next+1⟩ 0
 |_=>none
noncomputable def x36:FnT:=λc h args m=>match args with
 |[t0]=>x2c c h m.next t0 ⟨m.hp,m.next+1⟩ 0
 |_=>none
noncomputable def x37:FnT:=λc h args m=>match args with
 |[t0]=>x2d c h m.next t0 ⟨m.hp,m.next+1⟩ 0
 |_=>none
noncomputable def x38:FnT:=λc h args m=>match args with
 |[t0]=>x2e c h m.next t0 ⟨m.hp,m.next+1⟩ 0
 |_=>none
noncomputable def x39:FnT:=λc h args m=>match args with
 |[t0]=>x2h c h m.next t0 ⟨m.hp,m.next+1⟩ 0
 |_=>none
noncomputable def x3a:FnT:=λc h args m=>match args with
 |[t0,t1]=>x2k c h m.next t0 t1 ⟨m.hp,m.next+1⟩ 0
 |_=>none
noncomputable def x3b:FnT:=λc h args m=>match args with
 |[t0]=>x2l c h m.next t0 ⟨m.hp,m.next+1⟩ 0
 |_=>none
noncomputable def x3c:FnT:=λc h args m=>match args with
 |[t0]=>x2m c h m.next t0 ⟨m.hp,m.next+1⟩ 0
 |_=>none
noncomputable def x3d:FnT:=λc h args m=>match args with
 |[t0]=>x2n c h m.next t0 ⟨m.hp,m.next+1⟩ 0
 |_=>none
noncomputable def x3e:FnT:=λc h args m=>match args with
 |[t0,t1,t2,t3]=>x2p c h m.next t0 t1 t2 t3 ⟨m.hp,m.next+1⟩ 0
 |_=>none
noncomputable def x3f:FnT:=λc h args m=>match args with
 |[t0]=>x2q c h m.next t0 ⟨m.hp,m.next+1⟩ 0
 |_=>none
noncomputable def x3g:FnT:=λc h args m=>match args with
 |[t0]=>x2r c h m.next t0 ⟨m.hp,m.next+1⟩ 0
 |_=>none
noncomputable def x3h:FnT:=λc h args m=>match args with
 |[t0,t1,t2]=>x2u c h m.next t0 t1 t2 ⟨m.hp,m.next+1⟩ 0
 |_=>none
noncomputable def x3i:FnT:=λc h args m=>match args with
 |[t0,t1]=>x2v c h m.next t0 t1 ⟨m.hp,m.next+1⟩ 0
 |_=>none
noncomputable def x3j:FnT:=λc h args m=>match args with
 |[t0]=>x4h c h m.next t0 ⟨m.hp,m.next+1⟩ 0
 |_=>none
end Go.Ix
