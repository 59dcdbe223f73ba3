import Derived.Test.YtjdlceelbnaneaaFxText0
set_option linter.unusedVariables false
namespace Go.Ix
open Go.Proofs
noncomputable def x13:FnT:=λc h args m=>match args with
 |[t0,t1,t2]=>xn c h m.next t0 t1 t2 ⟨m.hp,m.next+1⟩ 0
 |_=>none
noncomputable def x14:FnT:=λc h args m=>match args with
 |[t0,t1,t2]=>xo c h m.next t0 t1 t2 ⟨m.hp,m.next+1⟩ 0
 |_=>none
noncomputable def x15:FnT:=λc h args m=>match args with
 |[t0]=>xq c h m.next t0 ⟨m.hp,m.next+1⟩ 0
 |_=>none
noncomputable def x16:FnT:=λc h args m=>match args with
 |[t0,t1]=>xr c h m.next t0 t1 ⟨m.hp,m.next+1⟩ 0
 |_=>none
noncomputable def x17:FnT:=λc h args m=>match args with
 |[t0,t1,t2]=>xt c h m.next t0 t1 t2 ⟨m.hp,m.next+1⟩ 0
 |_=>none
noncomputable def x18:FnT:=λc h args m=>match args with
 |[t0]=>xv c h m.next t0 ⟨m.hp,m.next+1⟩ 0
 |_=>none
noncomputable def x19:FnT:=λc h args m=>match args with
 |[t0,t1,t2]=>xw c h m.next t0 t1 t2 ⟨m.hp,m.next+1⟩ 0
 |_=>none
noncomputable def x1a:FnT:=λc h args m=>match args with
 |[t0,t1,t2]=>xy c h m.next t0 t1 t2 ⟨m.hp,m.next+1⟩ 0
 |_=>none
noncomputable def x1b:FnT:=λc h args m=>match args with
 |[t0,t1,t2]=>xz c h m.next t0 t1 t2 ⟨m.hp,m.next+1⟩ 0
 |_=>none
noncomputable def x1c:FnT:=λc h args m=>match args with
 |[t0,t1]=>x10 c h m.next t0 t1 ⟨m.hp,m.next+1⟩ 0
 |_=>none
noncomputable def x1d:FnT:=λc h args m=>match args with
 |[t0,t1]=>x11 c h m.next t0 t1 ⟨m.hp,m.next+1⟩ 0
 |_=>none
end Go.Ix
