import Derived.Test.YtljibmnhhdiakaaFxRules
set_option linter.unusedVariables false
set_option maxHeartbeats 400000
namespace Go.Ix
open Go.Proofs
variable {R:Type} {n:FuncId} {F:FnT} {fn:Func} {body:Code} {nt:Nat} {rs:List ResultVar}
abbrev j0 (f:Mem→Nat→R):Fs→R:=fun s=>f s.m s.fc
abbrev j1 (f:AV→Mem→Nat→R) (i0:Nat):Fs→R:=fun s=>f (s.sl i0) s.m s.fc
abbrev j2 (f:AV→AV→Mem→Nat→R) (i0 i1:Nat):Fs→R:=fun s=>f (s.sl i0) (s.sl i1) s.m s.fc
abbrev j3 (f:AV→AV→AV→Mem→Nat→R) (i0 i1 i2:Nat):Fs→R:=fun s=>f (s.sl i0) (s.sl i1) (s.sl i2) s.m s.fc
abbrev j4 (f:AV→AV→AV→AV→Mem→Nat→R) (i0 i1 i2 i3:Nat):Fs→R:=fun s=>f (s.sl i0) (s.sl i1) (s.sl i2) (s.sl i3) s.m s.fc
abbrev j5 (f:AV→AV→AV→AV→AV→Mem→Nat→R) (i0 i1 i2 i3 i4:Nat):Fs→R:=fun s=>f (s.sl i0) (s.sl i1) (s.sl i2) (s.sl i3) (s.sl i4) s.m s.fc
abbrev j6 (f:AV→AV→AV→AV→AV→AV→Mem→Nat→R) (i0 i1 i2 i3 i4 i5:Nat):Fs→R:=fun s=>f (s.sl i0) (s.sl i1) (s.sl i2) (s.sl i3) (s.sl i4) (s.sl i5) s.m s.fc
abbrev j7 (f:AV→AV→AV→AV→AV→AV→AV→Mem→Nat→R) (i0 i1 i2 i3 i4 i5 i6:Nat):Fs→R:=fun s=>f (s.sl i0) (s.sl i1) (s.sl i2) (s.sl i3) (s.sl i4) (s.sl i5) (s.sl i6) s.m s.fc
abbrev j8 (f:AV→AV→AV→AV→AV→AV→AV→AV→Mem→Nat→R) (i0 i1 i2 i3 i4 i5 i6 i7:Nat):Fs→R:=fun s=>f (s.sl i0) (s.sl i1) (s.sl i2) (s.sl i3) (s.sl i4) (s.sl i5) (s.sl i6) (s.sl i7) s.m s.fc
abbrev j9 (f:AV→AV→AV→AV→AV→AV→AV→AV→AV→Mem→Nat→R) (i0 i1 i2 i3 i4 i5 i6 i7 i8:Nat):Fs→R:=fun s=>f (s.sl i0) (s.sl i1) (s.sl i2) (s.sl i3) (s.sl i4) (s.sl i5) (s.sl i6) (s.sl i7) (s.sl i8) s.m s.fc
abbrev j10 (f:AV→AV→AV→AV→AV→AV→AV→AV→AV→AV→Mem→Nat→R) (i0 i1 i2 i3 i4 i5 i6 i7 i8 i9:Nat):Fs→R:=fun s=>f (s.sl i0) (s.sl i1) (s.sl i2) (s.sl i3) (s.sl i4) (s.sl i5) (s.sl i6) (s.sl i7) (s.sl i8) (s.sl i9) s.m s.fc
theorem le0 (h1:Try.prog.funcs[n]?=some fn) (h2:fn.body=some body) (h3:okF fn nt 0=true) (h4:fn.results.toList=rs) (hb:∀ (call:x1lo) (hs:FHs) (m:Mem),XK call { f:=n,u:=m.next,nt:=nt,hs:=hs } (x1lu Try.prog rs) body (x1lu Try.prog rs) eNil { sl:=x1pd [],m:=⟨m.hp,m.next+1⟩,fc:=0 }=F call hs [] m)
 (g:∀ (call:x1lo) (hs:FHs) (args:List AV) (m:Mem) (r:AV×Mem),F call hs args m=some r→args=[]):FL n F:=by
 intro call hs args m r h
 obtain rfl:=g call hs args m r h
 rw [x1t5 (args:=[]) h1 h2 h3 h4]
 exact (hb call hs  m).trans h
theorem le1 (h1:Try.prog.funcs[n]?=some fn) (h2:fn.body=some body) (h3:okF fn nt 1=true) (h4:fn.results.toList=rs) (hb:∀ (call:x1lo) (hs:FHs) (a0:AV) (m:Mem),XK call { f:=n,u:=m.next,nt:=nt,hs:=hs } (x1lu Try.prog rs) body (x1lu Try.prog rs) eNil { sl:=x1pd [a0],m:=⟨m.hp,m.next+1⟩,fc:=0 }=F call hs [a0] m)
 (g:∀ (call:x1lo) (hs:FHs) (args:List AV) (m:Mem) (r:AV×Mem),F call hs args m=some r→∃ a0,args=[a0]):FL n F:=by
 intro call hs args m r h
 obtain ⟨a0,rfl⟩:=g call hs args m r h
 rw [x1t5 (args:=[a0]) h1 h2 h3 h4]
 exact (hb call hs a0 m).trans h
theorem le2 (h1:Try.prog.funcs[n]?=some fn) (h2:fn.body=some body) (h3:okF fn nt 2=true) (h4:fn.results.toList=rs) (hb:∀ (call:x1lo) (hs:FHs) (a0 a1:AV) (m:Mem),XK call { f:=n,u:=m.next,nt:=nt,hs:=hs } (x1lu Try.prog rs) body (x1lu Try.prog rs) eNil { sl:=x1pd [a0,a1],m:=⟨m.hp,m.next+1⟩,fc:=0 }=F call hs [a0,a1] m)
 (g:∀ (call:x1lo) (hs:FHs) (args:List AV) (m:Mem) (r:AV×Mem),F call hs args m=some r→∃ a0 a1,args=[a0,a1]):FL n F:=by
 intro call hs args m r h
 obtain ⟨a0,a1,rfl⟩:=g call hs args m r h
 rw [x1t5 (args:=[a0,a1]) h1 h2 h3 h4]
 exact (hb call hs a0 a1 m).trans h
theorem le3 (h1:Try.prog.funcs[n]?=some fn) (h2:fn.body=some body) (h3:okF fn nt 3=true) (h4:fn.results.toList=rs) (hb:∀ (call:x1lo) (hs:FHs) (a0 a1 a2:AV) (m:Mem),XK call { f:=n,u:=m.next,nt:=nt,hs:=hs } (x1lu Try.prog rs) body (x1lu Try.prog rs) eNil { sl:=x1pd [a0,a1,a2],m:=⟨m.hp,m.next+1⟩,fc:=0 }=F call hs [a0,a1,a2] m)
 (g:∀ (call:x1lo) (hs:FHs) (args:List AV) (m:Mem) (r:AV×Mem),F call hs args m=some r→∃ a0 a1 a2,args=[a0,a1,a2]):FL n F:=by
 intro call hs args m r h
 obtain ⟨a0,a1,a2,rfl⟩:=g call hs args m r h
 rw [x1t5 (args:=[a0,a1,a2]) h1 h2 h3 h4]
 exact (hb call hs a0 a1 a2 m).trans h
theorem le4 (h1:Try.prog.funcs[n]?=some fn) (h2:fn.body=some body) (h3:okF fn nt 4=true) (h4:fn.results.toList=rs) (hb:∀ (call:x1lo) (hs:FHs) (a0 a1 a2 a3:AV) (m:Mem),XK call { f:=n,u:=m.next,nt:=nt,hs:=hs } (x1lu Try.prog rs) body (x1lu Try.prog rs) eNil { sl:=x1pd [a0,a1,a2,a3],m:=⟨m.hp,m.next+1⟩,fc:=0 }=F call hs [a0,a1,a2,a3] m)
 (g:∀ (call:x1lo) (hs:FHs) (args:List AV) (m:Mem) (r:AV×Mem),F call hs args m=some r→∃ a0 a1 a2 a3,args=[a0,a1,a2,a3]):FL n F:=by
 intro call hs args m r h
 obtain ⟨a0,a1,a2,a3,rfl⟩:=g call hs args m r h
 rw [x1t5 (args:=[a0,a1,a2,a3]) h1 h2 h3 h4]
 exact (hb call hs a0 a1 a2 a3 m).trans h
end Go.Ix
