import Derived.Test.YtjdlceelbnaneaaFxText0
set_option linter.unusedVariables false
namespace Go.Ix
open Go.Proofs
noncomputable def x3e:FnT:=λc h args m=>match args with
 |[t0,t1]=>x24 c h m.next t0 t1 ⟨m.hp,m.next+1⟩ 0
 |_=>none
noncomputable def x3f:FnT:=λc h args m=>match args with
 |[t0,t1,t2]=>x25 c h m.next t0 t1 t2 ⟨m.hp,m.next+1⟩ 0
 |_=>none
noncomputable def x3g:FnT:=λc h args m=>match args with
 |[t0]=>x26 c h m.next t0 ⟨m.hp,m.next+1⟩ 0
 |_=>none
noncomputable def x3h:FnT:=λc h args m=>match args with
 |[t0]=>x27 c h m.next t0 ⟨m.hp,m.next+1⟩ 0
 |_=>none
noncomputable def x3i:FnT:=λc h args m=>match args with
 |[t0]=>x28 c h m.next t0 ⟨m.hp,m.next+1⟩ 0
 |_=>none
noncomputable def x3j:FnT:=λc h args m=>match args with
 |[t0,t1]=>x2a c h m.next t0 t1 ⟨m.hp,m.next+1⟩ 0
 |_=>none
noncomputable def x3k:FnT:=λc h args m=>match args with
 |[t0,t1]=>x2b c h m.next t0 t1 ⟨m.hp,m.next+1⟩ 0
 |_=>none
noncomputable def x3l:FnT:=λc h args m=>match args with
 |[t0,t1,t2]=>x2c c h m.next t0 t1 t2 ⟨m.hp,m.next+1⟩ 0
 |_=>none
noncomputable def x22:FnT:=λc h args m=>match args with
 |[t0,t1]=>x1r c h m.next t0 t1 ⟨m.hp,m.next+1⟩ 0
 |_=>none
noncomputable def x3m:FnT:=λc h args m=>match args with
 |[t0,t1]=>x2g c h m.next t0 t1 ⟨m.hp,m.next+1⟩ 0
 |_=>none
noncomputable def x3n:FnT:=λc h args m=>match args with
 |[t0,t1]=>x2h c h m.next t0 t1 ⟨m.hp,m.next+1⟩ 0
 |_=>none
noncomputable def x3o:FnT:=λc h args m=>match args with
 |[t0,t1]=>x2i c h m.next t0 t1 ⟨m.hp,m.next+1⟩ 0
 |_=>none
noncomputable def x3p:FnT:=λc h args m=>match args with
 |[t0,t1]=>x2n c h m.next t0 t1 ⟨m.hp,m.next+1⟩ 0
 |_=>none
noncomputable def x3q:FnT:=λc h args m=>match args with
 |[t0,t1,t2]=>x2o c h m.next t0 t1 t2 ⟨m.hp,m.next+1⟩ 0
 |_=>none
noncomputable def x3r:FnT:=λc h args m=>match args with
 |[t0,t1]=>x2p c h m.next t0 t1 ⟨m.hp,m.next+1⟩ 0
 |_=>none
noncomputable def x3s:FnT:=λc h args m=>match args with
 |[t0,t1,t2,t3,t4]=>x2q c h m.next t0 t1 t2 t3 t4 ⟨m.hp,m.next+1⟩ 0
 |_=>none
noncomputable def x3t:FnT:=λc h args m=>match args with
 |[t0,t1,t2]=>x2r c h m.next t0 t1 t2 ⟨m.hp,m.next+1⟩ 0
 |_=>none
noncomputable def x3u:FnT:=λc h args m=>match args with
 |[t0]=>x2s c h m.next t0 ⟨m.hp,m.next+1⟩ 0
 |_=>none
noncomputable def x3v:FnT:=λc h args m=>match args with
 |[t0]=>x2u c h m.next t0 ⟨m.hp,m.next+1⟩ 0
 |_=>none
noncomputable def x3w:FnT:=λc h args m=>match args with
 |[t0]=>x2v c h m.next t0 ⟨m.hp,m.next+1⟩ 0
 |_=>none
noncomputable def x3x:FnT:=λc h args m=>match args with
 |[t0,t1]=>x2w c h m.next t0 t1 ⟨m.hp,m.next+1⟩ 0
 |_=>none
noncomputable def x3y:FnT:=λc h args m=>match args with
 |[t0,t1]=>x2x c h m.next t0 t1 ⟨m.hp,m.next+1⟩ 0
 |_=>none
noncomputable def x3z:FnT:=λc h args m=>match args with
 |[t0]=>x2y c h m.next t0 ⟨m.hp,m.next+1⟩ 0
 |_=>none
noncomputable def x1o:FnT:=λc h args m=>match args with
 |[t0,t1,t2]=>x1j c h m.next t0 t1 t2 ⟨m.hp,m.next+1⟩ 0
 |_=>none
noncomputable def x40:FnT:=λc h args m=>match args with
 |[t0,t1,t2]=>x2z c h m.next t0 t1 t2 ⟨m.hp,m.next+1⟩ 0
 |_=>none
noncomputable def x41:FnT:=λc h args m=>match args with
 |[t0,t1]=>x30 c h m.next t0 t1 ⟨m.hp,m.next+1⟩ 0
 |_=>none
noncomputable def x42:FnT:=λc h args m=>match args with
 |[t0,t1,t2]=>x32 c h m.next t0 t1 t2 ⟨m.hp,m.next+1⟩ 0
 |_=>none
noncomputable def x43:FnT:=λc h args m=>match args with
 |[t0,t1,t2]=>x33 c h m.next t0 t1 t2 ⟨m.hp,m.next+1⟩ 0
 |_=>none
noncomputable def x44:FnT:=λc h args m=>match args with
 |[t0,t1]=>x35 c h m.next t0 t1 ⟨m.hp,m.next+1⟩ 0
 |_=>none
noncomputable def x45:FnT:=λc h args m=>match args with
 |[t0,t1,t2]=>x36 c h m.next t0 t1 t2 ⟨m.hp,m.next+1⟩ 0
 |_=>none
noncomputable def x46:FnT:=λc h args m=>match args with
 |[t0,t1,t2]=>x37 c h m.next t0 t1 t2 ⟨m.hp,m.next+1⟩ 0
 |_=>none
noncomputable def x47:FnT:=λc h args m=>match args with
 |[t0,t1]=>x38 c h m.next t0 t1 ⟨m.hp,m.next+1⟩ 0
 |_=>none
noncomputable def x48:FnT:=λc h args m=>match args with
 |[t0]=>x39 c h m.next t0 ⟨m.hp,m.next+1⟩ 0
 |_=>none
noncomputable def x49:FnT:=λc h args m=>match args with
 |[t0,t1]=>x3a c h m.next t0 t1 ⟨m.hp,m.next+1⟩ 0
 |_=>none
noncomputable def x4a:FnT:=λc h args m=>match args with
 |[t0]=>x3b c h m.next t0 ⟨m.hp,m.next+1⟩ 0
 |_=>none
noncomputable def x4b:FnT:=λc h args m=>match args with
 |[t0]=>x3c c h m.next t0 ⟨m.hp,m.next+1⟩ 0
 |_=>none
end Go.Ix
