import Derived.Test.YtjdlceelbnaneaaFxDefs
import Derived.Test.YtjdlceelbnaneaaProg
namespace Go.Ix
open Go.Proofs
def pol:Pol:=λf t=>match f with
 |100=>if t=19 then 2 else if t=27 then 2 else 0
 |101=>if t=26 then 2 else 0
 |120=>if t=31 then 2 else 0
 |123=>if t=10 then 2 else 0
 |132=>if t=27 then 2 else if t=33 then 2 else if t=39 then 2 else if t=46 then 2 else if t=54 then 2 else if t=72 then 2 else if t=92 then 2 else if t=99 then 2 else if t=121 then 2 else if t=132 then 2 else 0
 |141=>if t=26 then 2 else if t=55 then 2 else 0
 |142=>if t=36 then 2 else 0
 |143=>if t=37 then 2 else if t=40 then 2 else if t=43 then 2 else if t=48 then 2 else 0
 |158=>if t=14 then 2 else 0
 |159=>if t=16 then 2 else if t=24 then 2 else if t=32 then 2 else 0
 |_=>0
def NN:Nat:=1048576
abbrev O2:=Option (AV×Mem)
abbrev FnT:=x8y->FHs->List AV->Mem->O2
abbrev FxKr10:=AV->AV->AV->AV->AV->AV->AV->AV->AV->AV->Mem->Nat->O2
abbrev xbq:=AV->AV->Mem->Nat->O2
abbrev FxKr3:=AV->AV->AV->Mem->Nat->O2
abbrev xaf:=AV->AV->AV->AV->Mem->Nat->O2
abbrev FxKr5:=AV->AV->AV->AV->AV->Mem->Nat->O2
abbrev xbf:=AV->AV->AV->AV->AV->AV->AV->AV->AV->Mem->Nat->O2
abbrev FxKtm3:=x8y->FHs->Nat->AV->AV->AV->Mem->Nat->Option Mem
abbrev FxKtm5:=x8y->FHs->Nat->AV->AV->AV->AV->AV->Mem->Nat->Option Mem
abbrev FxKtr0:=x8y->FHs->Nat->Mem->Nat->O2
abbrev x9s:=x8y->FHs->Nat->AV->Mem->Nat->O2
abbrev x9x:=x8y->FHs->Nat->AV->AV->Mem->Nat->O2
abbrev xa9:=x8y->FHs->Nat->AV->AV->AV->Mem->Nat->O2
abbrev FxKtr4:=x8y->FHs->Nat->AV->AV->AV->AV->Mem->Nat->O2
abbrev FxKtr5:=x8y->FHs->Nat->AV->AV->AV->AV->AV->Mem->Nat->O2
abbrev FxKtr6:=x8y->FHs->Nat->AV->AV->AV->AV->AV->AV->Mem->Nat->O2
abbrev FxKtr7:=x8y->FHs->Nat->AV->AV->AV->AV->AV->AV->AV->Mem->Nat->O2
abbrev FxKtr8:=x8y->FHs->Nat->AV->AV->AV->AV->AV->AV->AV->AV->Mem->Nat->O2
def x23:FuncId:=3
def x5f:FuncId:=15
def x15:FuncId:=16
def xr:FuncId:=17
def xj:FuncId:=18
def x16:FuncId:=19
def x17:FuncId:=20
def xc:FuncId:=21
def x18:FuncId:=24
def xt:FuncId:=37
def xu:FuncId:=38
def xv:FuncId:=40
def xw:FuncId:=44
def x19:FuncId:=46
def x1a:FuncId:=71
def x1b:FuncId:=73
def x1c:FuncId:=74
def xx:FuncId:=75
def x1d:FuncId:=76
def x1e:FuncId:=77
def xk:FuncId:=78
def x1f:FuncId:=79
def xe:FuncId:=80
def x1g:FuncId:=87
def x1h:FuncId:=89
def x1i:FuncId:=91
def xy:FuncId:=92
def xd:FuncId:=96
def xz:FuncId:=104
def x1j:FuncId:=105
def xl:FuncId:=106
def x1k:FuncId:=107
def x1l:FuncId:=114
def x1m:FuncId:=116
def x1n:FuncId:=118
def x1o:FuncId:=119
def xf:FuncId:=120
def x1p:FuncId:=129
def x1q:FuncId:=130
def x1r:FuncId:=131
def x10:FuncId:=137
def x1s:FuncId:=138
def x11:FuncId:=139
def x12:FuncId:=152
def x13:FuncId:=153
def xm:FuncId:=154
def x2h:FuncId:=160
def x7j:FuncId:=161
def x2j:FuncId:=162
def x2i:FuncId:=163
def x9a:TypeId:=3
def x8t:TypeId:=4
def xo:TypeId:=22
def xi:TypeId:=24
def x47:TypeId:=26
def x22:TypeId:=28
def xb:TypeId:=29
def x2b:TypeId:=35
def x61:TypeId:=37
def x6a:TypeId:=39
def x7:TypeId:=67
def x9:TypeId:=79
def x8u:TypeId:=126
def x6b:TypeId:=128
def x6c:TypeId:=133
def x8:TypeId:=157
def x36:TypeId:=170
def x8v:TypeId:=173
def x6:TypeId:=175
def x69:TypeId:=202
def x2d:TypeId:=219
noncomputable def z_int:List AV:=(zeroCells Try.prog x9a).getD []
noncomputable def x64:List AV:=(zeroCells Try.prog x47).getD []
noncomputable def x5t:List AV:=(zeroCells Try.prog x22).getD []
noncomputable def xa:List AV:=(zeroCells Try.prog xb).getD []
noncomputable def x14:List AV:=(zeroCells Try.prog x61).getD []
noncomputable def x2n:List AV:=(zeroCells Try.prog x6a).getD []
noncomputable def x65:List AV:=(zeroCells Try.prog x9).getD []
noncomputable def x35:List AV:=(zeroCells Try.prog x8u).getD []
noncomputable def x25:List AV:=(zeroCells Try.prog x6b).getD []
noncomputable def x1t:List AV:=(zeroCells Try.prog x6c).getD []
noncomputable def x3b:List AV:=(zeroCells Try.prog x8).getD []
noncomputable def x66:List AV:=(zeroCells Try.prog x36).getD []
noncomputable def x67:List AV:=(zeroCells Try.prog x8v).getD []
noncomputable def x21:List AV:=(zeroCells Try.prog x2d).getD []
end Go.Ix
