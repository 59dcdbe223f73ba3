import Derived.Test.YtjdlceelbnaneaaFxText0
set_option linter.unusedVariables false
namespace Go.Ix
open Go.Proofs
noncomputable def x2t:FnT:=λc h args m=>match args with
 |[t0]=>x21 c h m.next t0 ⟨m.hp,m.next+1⟩ 0
 |_=>none
noncomputable def x2u:FnT:=λc h args m=>match args with
 |[t0,t1,t2]=>x22 c h m.next t0 t1 t2 ⟨m.hp,m.next+1⟩ 0
 |_=>none
noncomputable def x2v:FnT:=λc h args m=>match args with
 |[t0]=>x23 c h m.next t0 ⟨m.hp,m.next+1⟩ 0
 |_=>none
noncomputable def x2w:FnT:=λc h args m=>match args with
 |[t0]=>x24 c h m.next t0 ⟨m.hp,m.next+1⟩ 0
 |_=>none
noncomputable def x1u:FnT:=λc h args m=>match args with
 |[t0]=>x1g c h m.next t0 ⟨m.hp,m.next+1⟩ 0
 |_=>none
noncomputable def x2x:FnT:=λc h args m=>match args with
 |[t0]=>x26 c h m.next t0 ⟨m.hp,m.next+1⟩ 0
 |_=>none
noncomputable def x2y:FnT:=λc h args m=>match args with
 |[t0,t1]=>x27 c h m.next t0 t1 ⟨m.hp,m.next+1⟩ 0
 |_=>none
noncomputable def x2z:FnT:=λc h args m=>match args with
 |[t0,t1]=>x28 c h m.next t0 t1 ⟨m.hp,m.next+1⟩ 0
 |_=>none
noncomputable def x30:FnT:=λc h args m=>match args with
 |[t0]=>x2a c h m.next t0 ⟨m.hp,m.next+1⟩ 0
 |_=>none
noncomputable def x31:FnT:=λc h args m=>match args with
 |[t0]=>x2c c h m.next t0 ⟨m.hp,m.next+1⟩ 0
 |_=>none
noncomputable def x32:FnT:=λc h args m=>match args with
 |[t0,t1,t2]=>x2d c h m.next t0 t1 t2 ⟨m.hp,m.next+1⟩ 0
 |_=>none
noncomputable def x33:FnT:=λc h args m=>match args with
 |[t0]=>x2e c h m.next t0 ⟨m.hp,m.next+1⟩ 0
 |_=>none
noncomputable def x34:FnT:=λc h args m=>match args with
 |[t0]=>x2i c h m.next t0 ⟨m.hp,m.next+1⟩ 0
 |_=>none
noncomputable def x35:FnT:=λc h args m=>match args with
 |[t0]=>x2m c h m.next t0 ⟨m.hp,m.next+1⟩ 0
 |_=>none
noncomputable def x36:FnT:=λc h args m=>match args with
 |[t0]=>x2n c h m.next t0 ⟨m.hp,m.next+1⟩ 0
 |_=>none
noncomputable def x37:FnT:=λc h args m=>match args with
 |[t0]=>x2o c h m.next t0 ⟨m.hp,m.next+1⟩ 0
 |_=>none
noncomputable def x38:FnT:=λc h args m=>match args with
 |[t0]=>x2p c h m.next t0 ⟨m.hp,m.next+1⟩ 0
 |_=>none
noncomputable def x39:FnT:=λc h args m=>match args with
 |[t0,t1]=>x2r c h m.next t0 t1 ⟨m.hp,m.next+1⟩ 0
 |_=>none
noncomputable def x3a:FnT:=λc h args m=>match args with
 |[t0]=>x2s c h m.next t0 ⟨m.hp,m.next+1⟩ 0
 |_=>none
end Go.Ix
