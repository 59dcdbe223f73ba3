import Derived.Test.YtjdlceelbnaneaaFxDefs
import Derived.Test.YtjdlceelbnaneaaProg
namespace Go.Ix
open Go.Proofs
def pol:Pol:=λf t=>match f with
 |100=>if t=19 then 2 else if t=27 then 2 else 0
 |101=>if t=26 then 2 else 0
 |120=>if t=31 then 2 else 0
 |123=>if t=10 then 2 else 0
 |132=>if t=27 then 2 else if t=33 then 2 else if t=39 then 2 else if t=46 then 2 else if t=54 then 2 else if t=72 then 2 else if t=92 then 2 else if t=99 then 2 else if t=121 then 2 else if t=132 then 2 else 0
 |141=>if t=26 then 2 else if t=55 then 2 else 0
 |142=>if t=36 then 2 else 0
 |143=>if t=37 then 2 else if t=40 then 2 else if t=43 then 2 else if t=48 then 2 else 0
 |158=>if t=14 then 2 else 0
 |159=>if t=16 then 2 else if t=24 then 2 else if t=32 then 2 else 0
 |_=>0
def NN:Nat:=1048576
abbrev O2:=Option (AV×Mem)
abbrev FnT:=x9a->FHs->List AV->Mem->O2
abbrev FxKr2:=AV->AV->Mem->Nat->O2
abbrev FxKr3:=AV->AV->AV->Mem->Nat->O2
abbrev xa8:=AV->AV->AV->AV->Mem->Nat->O2
abbrev xdh:=AV->AV->AV->AV->AV->Mem->Nat->O2
abbrev xb0:=AV->AV->AV->AV->AV->AV->AV->Mem->Nat->O2
abbrev xcx:=AV->AV->AV->AV->AV->AV->AV->AV->Mem->Nat->O2
abbrev FxKtm3:=x9a->FHs->Nat->AV->AV->AV->Mem->Nat->Option Mem
abbrev FxKtm5:=x9a->FHs->Nat->AV->AV->AV->AV->AV->Mem->Nat->Option Mem
abbrev FxKtr0:=x9a->FHs->Nat->Mem->Nat->O2
abbrev xa7:=x9a->FHs->Nat->AV->Mem->Nat->O2
abbrev xa3:=x9a->FHs->Nat->AV->AV->Mem->Nat->O2
abbrev xaj:=x9a->FHs->Nat->AV->AV->AV->Mem->Nat->O2
abbrev FxKtr4:=x9a->FHs->Nat->AV->AV->AV->AV->Mem->Nat->O2
abbrev FxKtr6:=x9a->FHs->Nat->AV->AV->AV->AV->AV->AV->Mem->Nat->O2
abbrev FxKtr7:=x9a->FHs->Nat->AV->AV->AV->AV->AV->AV->AV->Mem->Nat->O2
abbrev FxKtr8:=x9a->FHs->Nat->AV->AV->AV->AV->AV->AV->AV->AV->Mem->Nat->O2
def x2b:FuncId:=5
def x5k:FuncId:=15
def x1m:FuncId:=16
def x1n:FuncId:=17
def xo:FuncId:=18
def xz:FuncId:=21
def x10:FuncId:=22
def x11:FuncId:=24
def x12:FuncId:=25
def x13:FuncId:=32
def x14:FuncId:=37
def x15:FuncId:=38
def x1o:FuncId:=71
def x16:FuncId:=73
def x17:FuncId:=74
def xl:FuncId:=75
def x18:FuncId:=76
def xd:FuncId:=80
def xp:FuncId:=81
def x1p:FuncId:=87
def x19:FuncId:=92
def xc:FuncId:=96
def x1a:FuncId:=104
def x1q:FuncId:=105
def xq:FuncId:=106
def x1r:FuncId:=107
def x1s:FuncId:=108
def x1t:FuncId:=114
def x1u:FuncId:=116
def xf:FuncId:=120
def xb:FuncId:=124
def xm:FuncId:=125
def x1v:FuncId:=126
def x1b:FuncId:=127
def x1w:FuncId:=128
def x1x:FuncId:=129
def x1y:FuncId:=130
def xy:FuncId:=134
def x1c:FuncId:=135
def x1d:FuncId:=136
def x1e:FuncId:=137
def x1z:FuncId:=138
def x1f:FuncId:=151
def x1g:FuncId:=152
def x1h:FuncId:=153
def xt:FuncId:=154
def x2q:FuncId:=160
def x7v:FuncId:=161
def x2s:FuncId:=162
def x2r:FuncId:=163
def x9q:TypeId:=3
def x95:TypeId:=4
def xu:TypeId:=22
def xk:TypeId:=24
def x6d:TypeId:=26
def x2a:TypeId:=28
def xa:TypeId:=29
def x62:TypeId:=35
def x6e:TypeId:=37
def x6l:TypeId:=39
def xg:TypeId:=67
def xx:TypeId:=71
def xh:TypeId:=79
def x96:TypeId:=126
def x6m:TypeId:=128
def x6n:TypeId:=133
def x6o:TypeId:=140
def x8:TypeId:=157
def x39:TypeId:=170
def x97:TypeId:=173
def x6:TypeId:=175
def x7:TypeId:=202
def x2m:TypeId:=219
noncomputable def xcv:List AV:=(zeroCells Try.prog x9q).getD []
noncomputable def x5y:List AV:=(zeroCells Try.prog x2a).getD []
noncomputable def x9:List AV:=(zeroCells Try.prog xa).getD []
noncomputable def x1j:List AV:=(zeroCells Try.prog x6e).getD []
noncomputable def x5l:List AV:=(zeroCells Try.prog x6l).getD []
noncomputable def x6h:List AV:=(zeroCells Try.prog xh).getD []
noncomputable def x38:List AV:=(zeroCells Try.prog x96).getD []
noncomputable def x20:List AV:=(zeroCells Try.prog x6m).getD []
noncomputable def x1i:List AV:=(zeroCells Try.prog x6n).getD []
noncomputable def x21:List AV:=(zeroCells Try.prog x6o).getD []
noncomputable def x3e:List AV:=(zeroCells Try.prog x8).getD []
noncomputable def x6i:List AV:=(zeroCells Try.prog x39).getD []
noncomputable def x6j:List AV:=(zeroCells Try.prog x97).getD []
noncomputable def x29:List AV:=(zeroCells Try.prog x2m).getD []
end Go.Ix
