import Derived.Test.YtjdlceelbnaneaaFxDefs
import Derived.Test.YtjdlceelbnaneaaProg
namespace Go.Ix
open Go.Proofs
def pol:Pol:=λf t=>match f with
 |100=>if t=19 then 2 else if t=27 then 2 else 0
 |101=>if t=26 then 2 else 0
 |120=>if t=31 then 2 else 0
 |123=>if t=10 then 2 else 0
 |132=>if t=27 then 2 else if t=33 then 2 else if t=39 then 2 else if t=46 then 2 else if t=54 then 2 else if t=72 then 2 else if t=92 then 2 else if t=99 then 2 else if t=121 then 2 else if t=132 then 2 else 0
 |141=>if t=26 then 2 else if t=55 then 2 else 0
 |142=>if t=36 then 2 else 0
 |143=>if t=37 then 2 else if t=40 then 2 else if t=43 then 2 else if t=48 then 2 else 0
 |158=>if t=14 then 2 else 0
 |159=>if t=16 then 2 else if t=24 then 2 else if t=32 then 2 else 0
 |_=>0
def NN:Nat:=1048576
abbrev O2:=Option (AV×Mem)
abbrev FnT:=xc0->FHs->List AV->Mem->O2
abbrev xdg:=AV->AV->AV->AV->AV->AV->AV->AV->AV->AV->Mem->Nat->O2
abbrev xfx:=AV->AV->AV->AV->AV->AV->AV->AV->AV->AV->AV->Mem->Nat->O2
abbrev xeu:=AV->AV->Mem->Nat->O2
abbrev FxKr3:=AV->AV->AV->Mem->Nat->O2
abbrev xd0:=AV->AV->AV->AV->Mem->Nat->O2
abbrev xgl:=AV->AV->AV->AV->AV->Mem->Nat->O2
abbrev xdz:=AV->AV->AV->AV->AV->AV->AV->Mem->Nat->O2
abbrev xfy:=AV->AV->AV->AV->AV->AV->AV->AV->Mem->Nat->O2
abbrev xcv:=AV->AV->AV->AV->AV->AV->AV->AV->AV->Mem->Nat->O2
abbrev FxKtm3:=xc0->FHs->Nat->AV->AV->AV->Mem->Nat->Option Mem
abbrev FxKtm5:=xc0->FHs->Nat->AV->AV->AV->AV->AV->Mem->Nat->Option Mem
abbrev FxKtr0:=xc0->FHs->Nat->Mem->Nat->O2
abbrev xcu:=xc0->FHs->Nat->AV->Mem->Nat->O2
abbrev xct:=xc0->FHs->Nat->AV->AV->Mem->Nat->O2
abbrev xd3:=xc0->FHs->Nat->AV->AV->AV->Mem->Nat->O2
abbrev FxKtr4:=xc0->FHs->Nat->AV->AV->AV->AV->Mem->Nat->O2
abbrev FxKtr5:=xc0->FHs->Nat->AV->AV->AV->AV->AV->Mem->Nat->O2
abbrev FxKtr6:=xc0->FHs->Nat->AV->AV->AV->AV->AV->AV->Mem->Nat->O2
abbrev FxKtr7:=xc0->FHs->Nat->AV->AV->AV->AV->AV->AV->AV->Mem->Nat->O2
abbrev xiz:=xc0->FHs->Nat->AV->AV->AV->AV->AV->AV->AV->AV->Mem->Nat->O2
def x2x:FuncId:=4
def x7d:FuncId:=15
def x1p:FuncId:=16
def x12:FuncId:=18
def x1q:FuncId:=19
def x1r:FuncId:=20
def xe:FuncId:=21
def x13:FuncId:=22
def x1s:FuncId:=23
def xm:FuncId:=24
def x1t:FuncId:=25
def x14:FuncId:=32
def x15:FuncId:=37
def x16:FuncId:=38
def x17:FuncId:=40
def x18:FuncId:=44
def x1u:FuncId:=46
def x1v:FuncId:=71
def x1w:FuncId:=73
def x1x:FuncId:=74
def xn:FuncId:=75
def x1y:FuncId:=76
def x1z:FuncId:=77
def xo:FuncId:=78
def x20:FuncId:=79
def xg:FuncId:=80
def xp:FuncId:=81
def x21:FuncId:=87
def x22:FuncId:=89
def x23:FuncId:=91
def x19:FuncId:=92
def xf:FuncId:=96
def x1a:FuncId:=104
def x24:FuncId:=105
def xq:FuncId:=106
def x25:FuncId:=107
def x26:FuncId:=108
def x27:FuncId:=114
def x28:FuncId:=116
def x29:FuncId:=118
def x2a:FuncId:=119
def xh:FuncId:=120
def xc:FuncId:=124
def xl:FuncId:=125
def x2b:FuncId:=126
def x1b:FuncId:=127
def x2c:FuncId:=128
def x2d:FuncId:=129
def x2e:FuncId:=130
def x2f:FuncId:=131
def x11:FuncId:=134
def x1c:FuncId:=135
def x1d:FuncId:=136
def x1e:FuncId:=137
def x2g:FuncId:=138
def x1f:FuncId:=139
def x1g:FuncId:=151
def x1h:FuncId:=152
def x1i:FuncId:=153
def xr:FuncId:=154
def x3h:FuncId:=160
def xa7:FuncId:=161
def x3j:FuncId:=162
def x3i:FuncId:=163
def xcb:TypeId:=3
def xbv:TypeId:=4
def xw:TypeId:=22
def xk:TypeId:=24
def x8b:TypeId:=26
def x2w:TypeId:=28
def xd:TypeId:=29
def x3b:TypeId:=35
def x8c:TypeId:=37
def x8k:TypeId:=39
def x9:TypeId:=67
def x10:TypeId:=71
def xb:TypeId:=79
def xbw:TypeId:=126
def x8l:TypeId:=128
def x8m:TypeId:=133
def x8n:TypeId:=140
def xa:TypeId:=157
def x4e:TypeId:=170
def xbx:TypeId:=173
def x6:TypeId:=175
def x7:TypeId:=202
def x3d:TypeId:=219
noncomputable def xfv:List AV:=(zeroCells Try.prog xcb).getD []
noncomputable def x7v:List AV:=(zeroCells Try.prog x2w).getD []
noncomputable def x8:List AV:=(zeroCells Try.prog xd).getD []
noncomputable def x1m:List AV:=(zeroCells Try.prog x8c).getD []
noncomputable def x3o:List AV:=(zeroCells Try.prog x8k).getD []
noncomputable def x8g:List AV:=(zeroCells Try.prog xb).getD []
noncomputable def x4d:List AV:=(zeroCells Try.prog xbw).getD []
noncomputable def x31:List AV:=(zeroCells Try.prog x8l).getD []
noncomputable def x2m:List AV:=(zeroCells Try.prog x8m).getD []
noncomputable def x2j:List AV:=(zeroCells Try.prog x8n).getD []
noncomputable def x4j:List AV:=(zeroCells Try.prog xa).getD []
noncomputable def x8h:List AV:=(zeroCells Try.prog x4e).getD []
noncomputable def x8i:List AV:=(zeroCells Try.prog xbx).getD []
noncomputable def x2v:List AV:=(zeroCells Try.prog x3d).getD []
end Go.Ix
