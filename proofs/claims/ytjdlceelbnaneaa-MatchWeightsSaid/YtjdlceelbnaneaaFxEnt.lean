import Derived.Test.YtjdlceelbnaneaaFxText0
set_option linter.unusedVariables false
namespace Go.Ix
open Go.Proofs
noncomputable def xf:FnT:=λc h args m=>match args with
 |[t0,t1]=>xa c h m.next t0 t1 ⟨m.hp,m.next+1⟩ 0
 |_=>none
noncomputable def xg:FnT:=λc h args m=>match args with
 |[t0,t1,t2]=>xb c h m.next t0 t1 t2 ⟨m.hp,m.next+1⟩ 0
 |_=>none
noncomputable def x9:FnT:=λc h args m=>match args with
 |[t0,t1]=>x8 c h m.next t0 t1 ⟨m.hp,m.next+1⟩ 0
 |_=>none
noncomputable def xh:FnT:=λc h args m=>match args with
 |[t0]=>xc c h m.next t0 ⟨m.hp,m.next+1⟩ 0
 |_=>none
noncomputable def xi:FnT:=λc h args m=>match args with
 |[t0,t1,t2]=>xd c h m.next t0 t1 t2 ⟨m.hp,m.next+1⟩ 0
 |_=>none
noncomputable def xj:FnT:=λc h args m=>match args with
 |[t0]=>xe c h m.next t0 ⟨m.hp,m.next+1⟩ 0
 |_=>none
end Go.Ix
