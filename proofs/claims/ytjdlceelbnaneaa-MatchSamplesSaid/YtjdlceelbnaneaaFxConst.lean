import Derived.Test.YtjdlceelbnaneaaFxDefs
import Derived.Test.YtjdlceelbnaneaaProg
namespace Go.Ix
open Go.Proofs
def pol:Pol:=λf t=>match f with
 |100=>if t=19 then 2 else if t=27 then 2 else 0
 |101=>if t=26 then 2 else 0
 |120=>if t=31 then 2 else 0
 |123=>if t=10 then 2 else 0
 |132=>if t=27 then 2 else if t=33 then 2 else if t=39 then 2 else if t=46 then 2 else if t=54 then 2 else if t=72 then 2 else if t=92 then 2 else if t=99 then 2 else if t=121 then 2 else if t=132 then 2 else 0
 |141=>if t=26 then 2 else if t=55 then 2 else 0
 |142=>if t=36 then 2 else 0
 |143=>if t=37 then 2 else if t=40 then 2 else if t=43 then 2 else if t=48 then 2 else 0
 |158=>if t=14 then 2 else 0
 |159=>if t=16 then 2 else if t=24 then 2 else if t=32 then 2 else 0
 |_=>0
def NN:Nat:=1048576
abbrev O2:=Option (AV×Mem)
abbrev FnT:=x7q->FHs->List AV->Mem->O2
abbrev xa3:=AV->AV->AV->AV->AV->AV->AV->AV->AV->AV->Mem->Nat->O2
abbrev FxKr11:=AV->AV->AV->AV->AV->AV->AV->AV->AV->AV->AV->Mem->Nat->O2
abbrev FxKr14:=AV->AV->AV->AV->AV->AV->AV->AV->AV->AV->AV->AV->AV->AV->Mem->Nat->O2
abbrev FxKr2:=AV->AV->Mem->Nat->O2
abbrev xas:=AV->AV->AV->Mem->Nat->O2
abbrev x9p:=AV->AV->AV->AV->Mem->Nat->O2
abbrev xa2:=AV->AV->AV->AV->AV->AV->AV->AV->AV->Mem->Nat->O2
abbrev xds:=x7q->FHs->Nat->Mem->Nat->O2
abbrev x8s:=x7q->FHs->Nat->AV->Mem->Nat->O2
abbrev x8l:=x7q->FHs->Nat->AV->AV->Mem->Nat->O2
abbrev x8r:=x7q->FHs->Nat->AV->AV->AV->Mem->Nat->O2
abbrev FxKtr4:=x7q->FHs->Nat->AV->AV->AV->AV->Mem->Nat->O2
abbrev FxKtr5:=x7q->FHs->Nat->AV->AV->AV->AV->AV->Mem->Nat->O2
abbrev FxKtr6:=x7q->FHs->Nat->AV->AV->AV->AV->AV->AV->Mem->Nat->O2
abbrev xcp:=x7q->FHs->Nat->AV->AV->AV->AV->AV->AV->AV->Mem->Nat->O2
abbrev FxKtr9:=x7q->FHs->Nat->AV->AV->AV->AV->AV->AV->AV->AV->AV->Mem->Nat->O2
def x1t:FuncId:=8
def x4r:FuncId:=15
def x7:FuncId:=21
def xm:FuncId:=31
def x9:FuncId:=32
def x10:FuncId:=34
def x1y:FuncId:=35
def x1k:FuncId:=36
def x11:FuncId:=37
def xg:FuncId:=38
def xn:FuncId:=39
def x12:FuncId:=40
def xh:FuncId:=41
def x13:FuncId:=42
def xo:FuncId:=43
def xp:FuncId:=44
def x14:FuncId:=71
def x15:FuncId:=78
def xa:FuncId:=80
def x16:FuncId:=85
def x20:FuncId:=86
def x17:FuncId:=87
def x18:FuncId:=88
def x19:FuncId:=89
def xq:FuncId:=90
def x1a:FuncId:=91
def x1b:FuncId:=114
def xi:FuncId:=115
def x1c:FuncId:=116
def xr:FuncId:=117
def x1d:FuncId:=118
def x1e:FuncId:=119
def x1f:FuncId:=121
def x1g:FuncId:=129
def x1h:FuncId:=130
def x1i:FuncId:=131
def xt:FuncId:=137
def x1j:FuncId:=138
def xu:FuncId:=139
def xv:FuncId:=152
def xw:FuncId:=153
def xj:FuncId:=154
def x26:FuncId:=160
def x6i:FuncId:=161
def x28:FuncId:=162
def x27:FuncId:=163
def x7x:TypeId:=3
def x7l:TypeId:=4
def xf:TypeId:=22
def x29:TypeId:=24
def x8:TypeId:=29
def xl:TypeId:=35
def x5e:TypeId:=37
def x4:TypeId:=67
def x1m:TypeId:=71
def xb:TypeId:=74
def x5:TypeId:=79
def x7m:TypeId:=126
def x7n:TypeId:=149
def x6:TypeId:=157
def x3:TypeId:=175
def x5g:TypeId:=202
def x22:TypeId:=219
noncomputable def x2a:List AV:=(zeroCells Try.prog x8).getD []
noncomputable def xx:List AV:=(zeroCells Try.prog x5e).getD []
noncomputable def xe:List AV:=(zeroCells Try.prog x5).getD []
noncomputable def x4u:List AV:=(zeroCells Try.prog x7m).getD []
noncomputable def x55:List AV:=(zeroCells Try.prog x7n).getD []
noncomputable def x1s:List AV:=(zeroCells Try.prog x22).getD []
end Go.Ix
