import Derived.Test.YtjngclcijnpooaaGreatDoorFxRules
set_option linter.all false
open Go.Proofs.Tryz
noncomputable section
set_option maxHeartbeats 400000
namespace Go.Ix
open Go.Proofs
variable{R:Type}{n:FuncId}{F:aS}{fn:Func}{body:Code}{nt:Nat}{rs:List ResultVar}
abbrev j0(f:Mem->Nat->R):Fs->R:=λs=>f s.m s.fc
abbrev j1(f:AV->Mem->Nat->R)(i0:Nat):Fs->R:=λs=>f (s.sl i0) s.m s.fc
abbrev j2(f:AV->AV->Mem->Nat->R)(i0 i1:Nat):Fs->R:=λs=>f (s.sl i0) (s.sl i1) s.m s.fc
abbrev j3(f:AV->AV->AV->Mem->Nat->R)(i0 i1 i2:Nat):Fs->R:=λs=>f (s.sl i0) (s.sl i1) (s.sl i2) s.m s.fc
abbrev j4(f:AV->AV->AV->AV->Mem->Nat->R)(i0 i1 i2 i3:Nat):Fs->R:=λs=>f (s.sl i0) (s.sl i1) (s.sl i2) (s.sl i3) s.m s.fc
abbrev j5(f:AV->AV->AV->AV->AV->Mem->Nat->R)(i0 i1 i2 i3 i4:Nat):Fs->R:=λs=>f (s.sl i0) (s.sl i1) (s.sl i2) (s.sl i3) (s.sl i4) s.m s.fc
abbrev j6(f:AV->AV->AV->AV->AV->AV->Mem->Nat->R)(i0 i1 i2 i3 i4 i5:Nat):Fs->R:=λs=>f (s.sl i0) (s.sl i1) (s.sl i2) (s.sl i3) (s.sl i4) (s.sl i5) s.m s.fc
abbrev j7(f:AV->AV->AV->AV->AV->AV->AV->Mem->Nat->R)(i0 i1 i2 i3 i4 i5 i6:Nat):Fs->R:=λs=>f (s.sl i0) (s.sl i1) (s.sl i2) (s.sl i3) (s.sl i4) (s.sl i5) (s.sl i6) s.m s.fc
abbrev j8(f:AV->AV->AV->AV->AV->AV->AV->AV->Mem->Nat->R)(i0 i1 i2 i3 i4 i5 i6 i7:Nat):Fs->R:=λs=>f (s.sl i0) (s.sl i1) (s.sl i2) (s.sl i3) (s.sl i4) (s.sl i5) (s.sl i6) (s.sl i7) s.m s.fc
abbrev j9(f:AV->AV->AV->AV->AV->AV->AV->AV->AV->Mem->Nat->R)(i0 i1 i2 i3 i4 i5 i6 i7 i8:Nat):Fs->R:=λs=>f (s.sl i0) (s.sl i1) (s.sl i2) (s.sl i3) (s.sl i4) (s.sl i5) (s.sl i6) (s.sl i7) (s.sl i8) s.m s.fc
abbrev j10(f:AV->AV->AV->AV->AV->AV->AV->AV->AV->AV->Mem->Nat->R)(i0 i1 i2 i3 i4 i5 i6 i7 i8 i9:Nat):Fs->R:=λs=>f (s.sl i0) (s.sl i1) (s.sl i2) (s.sl i3) (s.sl i4) (s.sl i5) (s.sl i6) (s.sl i7) (s.sl i8) (s.sl i9) s.m s.fc
abbrev j11(f:AV->AV->AV->AV->AV->AV->AV->AV->AV->AV->AV->Mem->Nat->R)(i0 i1 i2 i3 i4 i5 i6 i7 i8 i9 i10:Nat):Fs->R:=λs=>f (s.sl i0) (s.sl i1) (s.sl i2) (s.sl i3) (s.sl i4) (s.sl i5) (s.sl i6) (s.sl i7) (s.sl i8) (s.sl i9) (s.sl i10) s.m s.fc
def eD{J:aJ->FHs->Nat->Fs->O2}(hb:∀{call:aJ} {hs:FHs} {u:Nat},VX n nt (fS prog rs) call hs u body (fS prog rs) iV=J call hs u)(h0:pol n iP=0:=by kernel_rfl)(h1:prog.funcs[n]?=some fn:=by kernel_rfl)(h2:fn.body=some body:=by kernel_rfl)(h3:y9 fn nt 1=true:=by kernel_rfl)(h4:fn.results.toList=rs:=by kernel_rfl)(hk:∀(call:aJ) (hs:FHs) (a0:AV) (m:Mem),J call hs m.next {sl:=nJ [a0],m:=⟨m.hp,m.next+1⟩,fc:=0}=F call hs [a0] m:=by intros;kernel_rfl)(g0:∀(call:aJ) (hs:FHs) (m:Mem),F call hs [] m=none:=by intros;rfl)(g1:∀(call:aJ) (hs:FHs) (a0 b:AV) (l:List AV) (m:Mem),F call hs (a0::b::l) m=none:=by intros;rfl):FL n F:=by
 intro call hs args m r h;match args,h with
 |[],h=>rw[g0]at h;cases h
 |a0::_::_,h=>rw[g1]at h;cases h
 |[a0],h=>rw[ES (args:=[a0]) h0 h1 h2 h3 h4];have e:=congrFun (hb (call:=call) (hs:=hs) (u:=m.next)) {sl:=nJ [a0],m:=⟨m.hp,m.next+1⟩,fc:=0};exact e.trans ((hk call hs a0 m).trans h)
def dD{J:aJ->FHs->Nat->Fs->O2}(hb:∀{call:aJ} {hs:FHs} {u:Nat},VX n nt (fS prog rs) call hs u body (fS prog rs) iV=J call hs u)(h0:pol n iP=0:=by kernel_rfl)(h1:prog.funcs[n]?=some fn:=by kernel_rfl)(h2:fn.body=some body:=by kernel_rfl)(h3:y9 fn nt 2=true:=by kernel_rfl)(h4:fn.results.toList=rs:=by kernel_rfl)(hk:∀(call:aJ) (hs:FHs) (a0 a1:AV) (m:Mem),J call hs m.next {sl:=nJ [a0,a1],m:=⟨m.hp,m.next+1⟩,fc:=0}=F call hs [a0,a1] m:=by intros;kernel_rfl)(g0:∀(call:aJ) (hs:FHs) (m:Mem),F call hs [] m=none:=by intros;rfl)(g1:∀(call:aJ) (hs:FHs) (a0:AV) (m:Mem),F call hs [a0] m=none:=by intros;rfl)(g2:∀(call:aJ) (hs:FHs) (a0 a1 b:AV) (l:List AV) (m:Mem),F call hs (a0::a1::b::l) m=none:=by intros;rfl):FL n F:=by
 intro call hs args m r h;match args,h with
 |[],h=>rw[g0]at h;cases h
 |[a0],h=>rw[g1]at h;cases h
 |a0::a1::_::_,h=>rw[g2]at h;cases h
 |[a0,a1],h=>rw[ES (args:=[a0,a1]) h0 h1 h2 h3 h4];have e:=congrFun (hb (call:=call) (hs:=hs) (u:=m.next)) {sl:=nJ [a0,a1],m:=⟨m.hp,m.next+1⟩,fc:=0};exact e.trans ((hk call hs a0 a1 m).trans h)
def jE{J:aJ->FHs->Nat->Fs->O2}(hb:∀{call:aJ} {hs:FHs} {u:Nat},VX n nt (fS prog rs) call hs u body (fS prog rs) iV=J call hs u)(h0:pol n iP=0:=by kernel_rfl)(h1:prog.funcs[n]?=some fn:=by kernel_rfl)(h2:fn.body=some body:=by kernel_rfl)(h3:y9 fn nt 3=true:=by kernel_rfl)(h4:fn.results.toList=rs:=by kernel_rfl)(hk:∀(call:aJ) (hs:FHs) (a0 a1 a2:AV) (m:Mem),J call hs m.next {sl:=nJ [a0,a1,a2],m:=⟨m.hp,m.next+1⟩,fc:=0}=F call hs [a0,a1,a2] m:=by intros;kernel_rfl)(g0:∀(call:aJ) (hs:FHs) (m:Mem),F call hs [] m=none:=by intros;rfl)(g1:∀(call:aJ) (hs:FHs) (a0:AV) (m:Mem),F call hs [a0] m=none:=by intros;rfl)(g2:∀(call:aJ) (hs:FHs) (a0 a1:AV) (m:Mem),F call hs [a0,a1] m=none:=by intros;rfl)(g3:∀(call:aJ) (hs:FHs) (a0 a1 a2 b:AV) (l:List AV) (m:Mem),F call hs (a0::a1::a2::b::l) m=none:=by intros;rfl):FL n F:=by
 intro call hs args m r h;match args,h with
 |[],h=>rw[g0]at h;cases h
 |[a0],h=>rw[g1]at h;cases h
 |[a0,a1],h=>rw[g2]at h;cases h
 |a0::a1::a2::_::_,h=>rw[g3]at h;cases h
 |[a0,a1,a2],h=>rw[ES (args:=[a0,a1,a2]) h0 h1 h2 h3 h4];have e:=congrFun (hb (call:=call) (hs:=hs) (u:=m.next)) {sl:=nJ [a0,a1,a2],m:=⟨m.hp,m.next+1⟩,fc:=0};exact e.trans ((hk call hs a0 a1 a2 m).trans h)
def KB{J:aJ->FHs->Nat->Fs->O2}(hb:∀{call:aJ} {hs:FHs} {u:Nat},VX n nt (fS prog rs) call hs u body (fS prog rs) iV=J call hs u)(h0:pol n iP=0:=by kernel_rfl)(h1:prog.funcs[n]?=some fn:=by kernel_rfl)(h2:fn.body=some body:=by kernel_rfl)(h3:y9 fn nt 4=true:=by kernel_rfl)(h4:fn.results.toList=rs:=by kernel_rfl)(hk:∀(call:aJ) (hs:FHs) (a0 a1 a2 a3:AV) (m:Mem),J call hs m.next {sl:=nJ [a0,a1,a2,a3],m:=⟨m.hp,m.next+1⟩,fc:=0}=F call hs [a0,a1,a2,a3] m:=by intros;kernel_rfl)(g0:∀(call:aJ) (hs:FHs) (m:Mem),F call hs [] m=none:=by intros;rfl)(g1:∀(call:aJ) (hs:FHs) (a0:AV) (m:Mem),F call hs [a0] m=none:=by intros;rfl)(g2:∀(call:aJ) (hs:FHs) (a0 a1:AV) (m:Mem),F call hs [a0,a1] m=none:=by intros;rfl)(g3:∀(call:aJ) (hs:FHs) (a0 a1 a2:AV) (m:Mem),F call hs [a0,a1,a2] m=none:=by intros;rfl)(g4:∀(call:aJ) (hs:FHs) (a0 a1 a2 a3 b:AV) (l:List AV) (m:Mem),F call hs (a0::a1::a2::a3::b::l) m=none:=by intros;rfl):FL n F:=by
 intro call hs args m r h;match args,h with
 |[],h=>rw[g0]at h;cases h
 |[a0],h=>rw[g1]at h;cases h
 |[a0,a1],h=>rw[g2]at h;cases h
 |[a0,a1,a2],h=>rw[g3]at h;cases h
 |a0::a1::a2::a3::_::_,h=>rw[g4]at h;cases h
 |[a0,a1,a2,a3],h=>rw[ES (args:=[a0,a1,a2,a3]) h0 h1 h2 h3 h4];have e:=congrFun (hb (call:=call) (hs:=hs) (u:=m.next)) {sl:=nJ [a0,a1,a2,a3],m:=⟨m.hp,m.next+1⟩,fc:=0};exact e.trans ((hk call hs a0 a1 a2 a3 m).trans h)
def le7{J:aJ->FHs->Nat->Fs->O2}(hb:∀{call:aJ} {hs:FHs} {u:Nat},VX n nt (fS prog rs) call hs u body (fS prog rs) iV=J call hs u)(h0:pol n iP=0:=by kernel_rfl)(h1:prog.funcs[n]?=some fn:=by kernel_rfl)(h2:fn.body=some body:=by kernel_rfl)(h3:y9 fn nt 7=true:=by kernel_rfl)(h4:fn.results.toList=rs:=by kernel_rfl)(hk:∀(call:aJ) (hs:FHs) (a0 a1 a2 a3 a4 a5 a6:AV) (m:Mem),J call hs m.next {sl:=nJ [a0,a1,a2,a3,a4,a5,a6],m:=⟨m.hp,m.next+1⟩,fc:=0}=F call hs [a0,a1,a2,a3,a4,a5,a6] m:=by intros;kernel_rfl)(g0:∀(call:aJ) (hs:FHs) (m:Mem),F call hs [] m=none:=by intros;rfl)(g1:∀(call:aJ) (hs:FHs) (a0:AV) (m:Mem),F call hs [a0] m=none:=by intros;rfl)(g2:∀(call:aJ) (hs:FHs) (a0 a1:AV) (m:Mem),F call hs [a0,a1] m=none:=by intros;rfl)(g3:∀(call:aJ) (hs:FHs) (a0 a1 a2:AV) (m:Mem),F call hs [a0,a1,a2] m=none:=by intros;rfl)(g4:∀(call:aJ) (hs:FHs) (a0 a1 a2 a3:AV) (m:Mem),F call hs [a0,a1,a2,a3] m=none:=by intros;rfl)(g5:∀(call:aJ) (hs:FHs) (a0 a1 a2 a3 a4:AV) (m:Mem),F call hs [a0,a1,a2,a3,a4] m=none:=by intros;rfl)(g6:∀(call:aJ) (hs:FHs) (a0 a1 a2 a3 a4 a5:AV) (m:Mem),F call hs [a0,a1,a2,a3,a4,a5] m=none:=by intros;rfl)(g7:∀(call:aJ) (hs:FHs) (a0 a1 a2 a3 a4 a5 a6 b:AV) (l:List AV) (m:Mem),F call hs (a0::a1::a2::a3::a4::a5::a6::b::l) m=none:=by intros;rfl):FL n F:=by
 intro call hs args m r h;match args,h with
 |[],h=>rw[g0]at h;cases h
 |[a0],h=>rw[g1]at h;cases h
 |[a0,a1],h=>rw[g2]at h;cases h
 |[a0,a1,a2],h=>rw[g3]at h;cases h
 |[a0,a1,a2,a3],h=>rw[g4]at h;cases h
 |[a0,a1,a2,a3,a4],h=>rw[g5]at h;cases h
 |[a0,a1,a2,a3,a4,a5],h=>rw[g6]at h;cases h
 |a0::a1::a2::a3::a4::a5::a6::_::_,h=>rw[g7]at h;cases h
 |[a0,a1,a2,a3,a4,a5,a6],h=>rw[ES (args:=[a0,a1,a2,a3,a4,a5,a6]) h0 h1 h2 h3 h4];have e:=congrFun (hb (call:=call) (hs:=hs) (u:=m.next)) {sl:=nJ [a0,a1,a2,a3,a4,a5,a6],m:=⟨m.hp,m.next+1⟩,fc:=0};exact e.trans ((hk call hs a0 a1 a2 a3 a4 a5 a6 m).trans h)
abbrev r_0:Fs->O2:=fS prog [.tmp 6]
abbrev r_1:Fs->O2:=fS prog [.tmp 2]
abbrev r_2:Fs->O2:=fS prog [.cell 2 AP]
abbrev r_3:Fs->O2:=fS prog [.tmp 6,.tmp 7,.tmp 8]
abbrev r_4:Fs->O2:=fS prog [.tmp 6,.tmp 7]
abbrev r_5:Fs->O2:=fS prog [.cell 4 yj,.tmp 5]
abbrev r_6:Fs->O2:=fS prog [.tmp 4]
abbrev r_7:Fs->O2:=fS prog [.tmp 4,.tmp 5,.tmp 6]
abbrev r_8:Fs->O2:=fS prog [.cell 4 yk]
abbrev r_9:Fs->O2:=fS prog [.cell 6 HR,.cell 7 WK,.tmp 8]
abbrev xp1:Fs->O2:=fS prog [.cell 6 HR,.cell 7 HR,.tmp 8]
abbrev qQ:Fs->O2:=fS prog [.tmp 3]
abbrev xp0:Fs->O2:=fS prog [.cell 4 WK]
abbrev YU:Fs->O2:=fS prog [.tmp 4,.tmp 5]
abbrev xpz:Fs->O2:=fS prog [.cell 6 yi]
abbrev vR:Fs->O2:=fS prog []
abbrev xpy:Fs->O2:=fS prog [.cell 4 yh,.tmp 5]
abbrev xpx:Fs->O2:=fS prog [.tmp 2,.tmp 3,.tmp 4]
abbrev vQ:Fs->O2:=fS prog [.tmp 2,.tmp 3]
abbrev xpw:Fs->O2:=fS prog [.tmp 8]
abbrev xpv:Fs->O2:=fS prog [.tmp 5]
end Go.Ix
