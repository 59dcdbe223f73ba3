import Derived.Test.YtongoppeakpioaaFxText0
set_option linter.unusedVariables false
namespace Go.Ix
open Go.Proofs
noncomputable def x1x:FnT:=λc h args m=>match args with
 |[t0,t1,t2]=>x17 c h m.next t0 t1 t2 ⟨m.hp,m.next+1⟩ 0
 |_=>none
noncomputable def x1y:FnT:=λc h args m=>match args with
 |[t0]=>x1a c h m.next t0 ⟨m.hp,m.next+1⟩ 0
 |_=>none
noncomputable def x1z:FnT:=λc h args m=>match args with
 |[t0]=>x1f c h m.next t0 ⟨m.hp,m.next+1⟩ 0
 |_=>none
noncomputable def x20:FnT:=λc h args m=>match args with
 |[t0,t1]=>x1h c h m.next t0 t1 ⟨m.hp,m.next+1⟩ 0
 |_=>none
noncomputable def x21:FnT:=λc h args m=>match args with
 |[t0,t1,t2]=>x1i c h m.next t0 t1 t2 ⟨m.hp,m.next+1⟩ 0
 |_=>none
noncomputable def x22:FnT:=λc h args m=>match args with
 |[t0]=>x1j c h m.next t0 ⟨m.hp,m.next+1⟩ 0
 |_=>none
noncomputable def x23:FnT:=λc h args m=>match args with
 |[t0,t1]=>x1k c h m.next t0 t1 ⟨m.hp,m.next+1⟩ 0
 |_=>none
noncomputable def x24:FnT:=λc h args m=>match args with
 |[t0,t1]=>x1l c h m.next t0 t1 ⟨m.hp,m.next+1⟩ 0
 |_=>none
noncomputable def x25:FnT:=λc h args m=>match args with
 |[t0,t1,t2]=>x1m c h m.next t0 t1 t2 ⟨m.hp,m.next+1⟩ 0
 |_=>none
noncomputable def x26:FnT:=λc h args m=>match args with
 |[t0]=>x1n c h m.next t0 ⟨m.hp,m.next+1⟩ 0
 |_=>none
noncomputable def x1w:FnT:=λc h args m=>match args with
 |[t0,t1,t2]=>x1o c h m.next t0 t1 t2 ⟨m.hp,m.next+1⟩ 0
 |_=>none
noncomputable def x27:FnT:=λc h args m=>match args with
 |[t0]=>x1p c h m.next t0 ⟨m.hp,m.next+1⟩ 0
 |_=>none
noncomputable def x28:FnT:=λc h args m=>match args with
 |[t0,t1,t2]=>x1u c h m.next t0 t1 t2 ⟨m.hp,m.next+1⟩ 0
 |_=>none
noncomputable def x29:FnT:=λc h args m=>match args with
 |[t0,t1,t2]=>x1v c h m.next t0 t1 t2 ⟨m.hp,m.next+1⟩ 0
 |_=>none
end Go.Ix
