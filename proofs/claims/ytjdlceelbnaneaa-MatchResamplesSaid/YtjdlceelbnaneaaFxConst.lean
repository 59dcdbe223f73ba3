import Derived.Test.YtjdlceelbnaneaaFxDefs
import Derived.Test.YtjdlceelbnaneaaProg
namespace Go.Ix
open Go.Proofs
def pol:Pol:=λf t=>match f with
 |100=>if t=19 then 2 else if t=27 then 2 else 0
 |101=>if t=26 then 2 else 0
 |120=>if t=31 then 2 else 0
 |123=>if t=10 then 2 else 0
 |132=>if t=27 then 2 else if t=33 then 2 else if t=39 then 2 else if t=46 then 2 else if t=54 then 2 else if t=72 then 2 else if t=92 then 2 else if t=99 then 2 else if t=121 then 2 else if t=132 then 2 else 0
 |141=>if t=26 then 2 else if t=55 then 2 else 0
 |142=>if t=36 then 2 else 0
 |143=>if t=37 then 2 else if t=40 then 2 else if t=43 then 2 else if t=48 then 2 else 0
 |158=>if t=14 then 2 else 0
 |159=>if t=16 then 2 else if t=24 then 2 else if t=32 then 2 else 0
 |_=>0
def NN:Nat:=1048576
abbrev O2:=Option (AV×Mem)
abbrev FnT:=x9w->FHs->List AV->Mem->O2
abbrev xcf:=AV->AV->AV->AV->AV->AV->AV->AV->AV->AV->Mem->Nat->O2
abbrev FxKr11:=AV->AV->AV->AV->AV->AV->AV->AV->AV->AV->AV->Mem->Nat->O2
abbrev FxKr14:=AV->AV->AV->AV->AV->AV->AV->AV->AV->AV->AV->AV->AV->AV->Mem->Nat->O2
abbrev xe5:=AV->AV->Mem->Nat->O2
abbrev xc0:=AV->AV->AV->Mem->Nat->O2
abbrev xbz:=AV->AV->AV->AV->Mem->Nat->O2
abbrev xcg:=AV->AV->AV->AV->AV->Mem->Nat->O2
abbrev xbi:=AV->AV->AV->AV->AV->AV->Mem->Nat->O2
abbrev xbh:=AV->AV->AV->AV->AV->AV->AV->AV->AV->Mem->Nat->O2
abbrev xe4:=x9w->FHs->Nat->Mem->Nat->O2
abbrev xas:=x9w->FHs->Nat->AV->Mem->Nat->O2
abbrev xam:=x9w->FHs->Nat->AV->AV->Mem->Nat->O2
abbrev xb0:=x9w->FHs->Nat->AV->AV->AV->Mem->Nat->O2
abbrev xf5:=x9w->FHs->Nat->AV->AV->AV->AV->Mem->Nat->O2
abbrev FxKtr5:=x9w->FHs->Nat->AV->AV->AV->AV->AV->Mem->Nat->O2
abbrev FxKtr6:=x9w->FHs->Nat->AV->AV->AV->AV->AV->AV->Mem->Nat->O2
abbrev FxKtr7:=x9w->FHs->Nat->AV->AV->AV->AV->AV->AV->AV->Mem->Nat->O2
abbrev FxKtr9:=x9w->FHs->Nat->AV->AV->AV->AV->AV->AV->AV->AV->AV->Mem->Nat->O2
def x2b:FuncId:=12
def x63:FuncId:=15
def xe:FuncId:=21
def x19:FuncId:=29
def xr:FuncId:=31
def xh:FuncId:=32
def x1a:FuncId:=34
def x2h:FuncId:=35
def x21:FuncId:=36
def x1b:FuncId:=37
def xt:FuncId:=38
def x1c:FuncId:=40
def x1d:FuncId:=41
def x1e:FuncId:=42
def xu:FuncId:=43
def x1f:FuncId:=44
def xv:FuncId:=48
def x1g:FuncId:=51
def x1h:FuncId:=52
def xw:FuncId:=59
def x1i:FuncId:=60
def x1j:FuncId:=61
def x1k:FuncId:=71
def x1l:FuncId:=78
def xg:FuncId:=80
def x1m:FuncId:=85
def x2k:FuncId:=86
def x1n:FuncId:=87
def x1o:FuncId:=88
def x1p:FuncId:=89
def xx:FuncId:=90
def x1q:FuncId:=91
def x1r:FuncId:=93
def x3k:FuncId:=94
def x6s:FuncId:=95
def x1s:FuncId:=99
def x1t:FuncId:=114
def xn:FuncId:=115
def x1u:FuncId:=116
def xy:FuncId:=117
def x1v:FuncId:=118
def x1w:FuncId:=119
def xo:FuncId:=121
def x1x:FuncId:=129
def x1y:FuncId:=130
def x1z:FuncId:=131
def xz:FuncId:=137
def x20:FuncId:=138
def x10:FuncId:=139
def x11:FuncId:=152
def x12:FuncId:=153
def xp:FuncId:=154
def x2q:FuncId:=160
def x8e:FuncId:=161
def x2s:FuncId:=162
def x2r:FuncId:=163
def xa7:TypeId:=3
def x9p:TypeId:=4
def xm:TypeId:=22
def x2t:TypeId:=24
def x75:TypeId:=29
def xq:TypeId:=35
def x2u:TypeId:=37
def x9q:TypeId:=57
def xb:TypeId:=67
def x13:TypeId:=71
def xi:TypeId:=74
def xc:TypeId:=79
def x4t:TypeId:=107
def x9r:TypeId:=126
def x9s:TypeId:=149
def xd:TypeId:=157
def x9t:TypeId:=159
def xa:TypeId:=175
def x74:TypeId:=202
def x2m:TypeId:=219
noncomputable def xj:List AV:=(zeroCells Try.prog x75).getD []
noncomputable def xf:List AV:=(zeroCells Try.prog x2u).getD []
noncomputable def x3q:List AV:=(zeroCells Try.prog xc).getD []
noncomputable def x6h:List AV:=(zeroCells Try.prog x9r).getD []
noncomputable def x6p:List AV:=(zeroCells Try.prog x9s).getD []
noncomputable def x6t:List AV:=(zeroCells Try.prog x9t).getD []
noncomputable def x2a:List AV:=(zeroCells Try.prog x2m).getD []
end Go.Ix
