import Derived.Test.YtdfahbenacjgeaaFxText0
set_option linter.unusedVariables false
namespace Go.Ix
open Go.Proofs
noncomputable def kM:FnT:=λc h args m=>match args with
 |[t0,t1,t2]=>fM c h m.next t0 t1 t2 ⟨m.hp,m.next+1⟩ 0
 |_=>none
noncomputable def kN:FnT:=λc h args m=>match args with
 |[t0]=>fP c h m.next t0 ⟨m.hp,m.next+1⟩ 0
 |_=>none
noncomputable def kO:FnT:=λc h args m=>match args with
 |[t0,t1]=>fQ c h m.next t0 t1 ⟨m.hp,m.next+1⟩ 0
 |_=>none
noncomputable def kP:FnT:=λc h args m=>match args with
 |[t0]=>fR c h m.next t0 ⟨m.hp,m.next+1⟩ 0
 |_=>none
noncomputable def fG:FnT:=λc h args m=>match args with
 |[t0]=>eR c h m.next t0 ⟨m.hp,m.next+1⟩ 0
 |_=>none
noncomputable def kQ:FnT:=λc h args m=>match args with
 |[t0,t1]=>fZ c h m.next t0 t1 ⟨m.hp,m.next+1⟩ 0
 |_=>none
noncomputable def kR:FnT:=λc h args m=>match args with
 |[t0]=>gA c h m.next t0 ⟨m.hp,m.next+1⟩ 0
 |_=>none
noncomputable def kS:FnT:=λc h args m=>match args with
 |[t0,t1]=>gD c h m.next t0 t1 ⟨m.hp,m.next+1⟩ 0
 |_=>none
noncomputable def kT:FnT:=λc h args m=>match args with
 |[t0,t1]=>gF c h m.next t0 t1 ⟨m.hp,m.next+1⟩ 0
 |_=>none
noncomputable def kU:FnT:=λc h args m=>match args with
 |[t0]=>gH c h m.next t0 ⟨m.hp,m.next+1⟩ 0
 |_=>none
noncomputable def kV:FnT:=λc h args m=>match args with
 |[t0,t1,t2]=>gI c h m.next t0 t1 t2 ⟨m.hp,m.next+1⟩ 0
 |_=>none
noncomputable def kW:FnT:=λc h args m=>match args with
 |[t0]=>gJ c h m.next t0 ⟨m.hp,m.next+1⟩ 0
 |_=>none
noncomputable def kX:FnT:=λc h args m=>match args with
 |[t0]=>gK c h m.next t0 ⟨m.hp,m.next+1⟩ 0
 |_=>none
noncomputable def kY:FnT:=λc h args m=>match args with
 |[t0]=>gL c h m.next t0 ⟨m.hp,m.next+1⟩ 0
 |_=>none
noncomputable def kZ:FnT:=λc h args m=>match args with
 |[t0,t1]=>gO c h m.next t0 t1 ⟨m.hp,m.next+1⟩ 0
 |_=>none
noncomputable def lA:FnT:=λc h args m=>match args with
 |[t0]=>gP c h m.next t0 ⟨m.hp,m.next+1⟩ 0
 |_=>none
noncomputable def lB:FnT:=λc h args m=>match args with
 |[t0,t1]=>gQ c h m.next t0 t1 ⟨m.hp,m.next+1⟩ 0
 |_=>none
noncomputable def lC:FnT:=λc h args m=>match args with
 |[t0]=>gR c h m.next t0 ⟨m.hp,m.next+1⟩ 0
 |_=>none
noncomputable def lE:FnT:=λc h args m=>match args with
 |[t0,t1]=>gS c h m.next t0 t1 ⟨m.hp,m.next+1⟩ 0
 |_=>none
noncomputable def lF:FnT:=λc h args m=>match args with
 |[t0]=>gT c h m.next t0 ⟨m.hp,m.next+1⟩ 0
 |_=>none
noncomputable def lG:FnT:=λc h args m=>match args with
 |[t0,t1,t2]=>gU c h m.next t0 t1 t2 ⟨m.hp,m.next+1⟩ 0
 |_=>none
noncomputable def lH:FnT:=λc h args m=>match args with
 |[t0,t1]=>gW c h m.next t0 t1 ⟨m.hp,m.next+1⟩ 0
 |_=>none
noncomputable def lI:FnT:=λc h args m=>match args with
 |[t0,t1]=>gY c h m.next t0 t1 ⟨m.hp,m.next+1⟩ 0
 |_=>none
noncomputable def lJ:FnT:=λc h args m=>match args with
 |[t0,t1]=>hJ c h m.next t0 t1 ⟨m.hp,m.next+1⟩ 0
 |_=>none
noncomputable def lK:FnT:=λc h args m=>match args with
 |[t0]=>hY c h m.next t0 ⟨m.hp,m.next+1⟩ 0
 |_=>none
noncomputable def lL:FnT:=λc h args m=>match args with
 |[t0,t1]=>iE c h m.next t0 t1 ⟨m.hp,m.next+1⟩ 0
 |_=>none
noncomputable def lM:FnT:=λc h args m=>match args with
 |[t0]=>iG c h m.next t0 ⟨m.hp,m.next+1⟩ 0
 |_=>none
noncomputable def kL:FnT:=λc h args m=>match args with
 |[t0,t1]=>iI c h m.next t0 t1 ⟨m.hp,m.next+1⟩ 0
 |_=>none
noncomputable def lN:FnT:=λc h args m=>match args with
 |[t0]=>iM c h m.next t0 ⟨m.hp,m.next+1⟩ 0
 |_=>none
noncomputable def lO:FnT:=λc h args m=>match args with
 |[t0,t1,t2,t3,t4,t5,t6]=>iP c h m.next t0 t1 t2 t3 t4 t5 t6 ⟨m.hp,m.next+1⟩ 0
 |_=>none
noncomputable def lP:FnT:=λc h args m=>match args with
 |[t0,t1,t2]=>iQ c h m.next t0 t1 t2 ⟨m.hp,m.next+1⟩ 0
 |_=>none
noncomputable def lQ:FnT:=λc h args m=>match args with
 |[t0]=>iS c h m.next t0 ⟨m.hp,m.next+1⟩ 0
 |_=>none
noncomputable def lR:FnT:=λc h args m=>match args with
 |[t0,t1]=>iV c h m.next t0 t1 ⟨m.hp,m.next+1⟩ 0
 |_=>none
noncomputable def lS:FnT:=λc h args m=>match args with
 |[t0]=>iX c h m.next t0 ⟨m.hp,m.next+1⟩ 0
 |_=>none
noncomputable def lT:FnT:=λc h args m=>match args with
 |[t0,t1]=>iY c h m.next t0 t1 ⟨m.hp,m.next+1⟩ 0
 |_=>none
noncomputable def lU:FnT:=λc h args m=>match args with
 |[t0]=>jA c h m.next t0 ⟨m.hp,m.next+1⟩ 0
 |_=>none
noncomputable def lV:FnT:=λc h args m=>match args with
 |[t0,t1]=>jB c h m.next t0 t1 ⟨m.hp,m.next+1⟩ 0
 |_=>none
noncomputable def lW:FnT:=λc h args m=>match args with
 |[t0,t1,t2]=>jC c h m.next t0 t1 t2 ⟨m.hp,m.next+1⟩ 0
 |_=>none
noncomputable def lX:FnT:=λc h args m=>match args with
 |[t0,t1]=>jD c h m.next t0 t1 ⟨m.hp,m.next+1⟩ 0
 |_=>none
noncomputable def lY:FnT:=λc h args m=>match args with
 |[t0]=>jE c h m.next t0 ⟨m.hp,m.next+1⟩ 0
 |_=>none
noncomputable def lZ:FnT:=λc h args m=>match args with
 |[t0,t1,t2,t3]=>jH c h m.next t0 t1 t2 t3 ⟨m.hp,m.next+1⟩ 0
 |_=>none
noncomputable def mA:FnT:=λc h args m=>match args with
 |[t0,t1]=>jI c h m.next t0 t1 ⟨m.hp,m.next+1⟩ 0
 |_=>none
noncomputable def mB:FnT:=λc h args m=>match args with
 |[t0]=>jK c h m.next t0 ⟨m.hp,m.next+1⟩ 0
 |_=>none
noncomputable def mD:FnT:=λc h args m=>match args with
 |[t0,t1,t2]=>jL c h m.next t0 t1 t2 ⟨m.hp,m.next+1⟩ 0
 |_=>none
noncomputable def mE:FnT:=λc h args m=>match args with
 |[t0]=>jP c h m.next t0 ⟨m.hp,m.next+1⟩ 0
 |_=>none
noncomputable def mF:FnT:=λc h args m=>match args with
 |[t0,t1]=>jQ c h m.next t0 t1 ⟨m.hp,m.next+1⟩ 0
 |_=>none
noncomputable def mG:FnT:=λc h args m=>match args with
 |[t0,t1]=>jR c h m.next t0 t1 ⟨m.hp,m.next+1⟩ 0
 |_=>none
noncomputable def mH:FnT:=λc h args m=>match args with
 |[t0,t1,t2]=>jU c h m.next t0 t1 t2 ⟨m.hp,m.next+1⟩ 0
 |_=>none
noncomputable def mI:FnT:=λc h args m=>match args with
 |[t0]=>jV c h m.next t0 ⟨m.hp,m.next+1⟩ 0
 |_=>none
noncomputable def mJ:FnT:=λc h args m=>match args with
 |[t0,t1,t2,t3]=>jX c h m.next t0 t1 t2 t3 ⟨m.hp,m.next+1⟩ 0
 |_=>none
noncomputable def mK:FnT:=λc h args m=>match args with
 |[t0]=>jY c h m.next t0 ⟨m.hp,m.next+1⟩ 0
 |_=>none
noncomputable def mL:FnT:=λc h args m=>match args with
 |[t0,t1]=>kA c h m.next t0 t1 ⟨m.hp,m.next+1⟩ 0
 |_=>none
noncomputable def mM:FnT:=λc h args m=>match args with
 |[t0,t1,t2,t3]=>kD c h m.next t0 t1 t2 t3 ⟨m.hp,m.next+1⟩ 0
 |_=>none
noncomputable def mN:FnT:=λc h args m=>match args with
 |[t0,t1,t2]=>kG c h m.next t0 t1 t2 ⟨m.hp,m.next+1⟩ 0
 |_=>none
noncomputable def mO:FnT:=λc h args m=>match args with
 |[t0,t1]=>kH c h m.next t0 t1 ⟨m.hp,m.next+1⟩ 0
 |_=>none
noncomputable def mP:FnT:=λc h args m=>match args with
 |[t0]=>qD c h m.next t0 ⟨m.hp,m.next+1⟩ 0
 |_=>none
noncomputable def mQ:FnT:=λc h args m=>match args with
 |[t0]=>kI c h m.next t0 ⟨m.hp,m.next+1⟩ 0
 |_=>none
end Go.Ix
