import Derived.Test.YtjdlceelbnaneaaFxDefs
import Derived.Test.YtjdlceelbnaneaaProg
namespace Go.Ix
open Go.Proofs
def pol:Pol:=λf t=>match f with
 |100=>if t=19 then 2 else if t=27 then 2 else 0
 |101=>if t=26 then 2 else 0
 |120=>if t=31 then 2 else 0
 |123=>if t=10 then 2 else 0
 |132=>if t=27 then 2 else if t=33 then 2 else if t=39 then 2 else if t=46 then 2 else if t=54 then 2 else if t=72 then 2 else if t=92 then 2 else if t=99 then 2 else if t=121 then 2 else if t=132 then 2 else 0
 |141=>if t=26 then 2 else if t=55 then 2 else 0
 |142=>if t=36 then 2 else 0
 |143=>if t=37 then 2 else if t=40 then 2 else if t=43 then 2 else if t=48 then 2 else 0
 |158=>if t=14 then 2 else 0
 |159=>if t=16 then 2 else if t=24 then 2 else if t=32 then 2 else 0
 |_=>0
def NN:Nat:=1048576
abbrev O2:=Option (AV×Mem)
abbrev FnT:=x71->FHs->List AV->Mem->O2
abbrev FxKr2:=AV->AV->Mem->Nat->O2
abbrev xa0:=AV->AV->AV->Mem->Nat->O2
abbrev x8y:=AV->AV->AV->AV->Mem->Nat->O2
abbrev x8h:=AV->AV->AV->AV->AV->Mem->Nat->O2
abbrev FxKr6:=AV->AV->AV->AV->AV->AV->Mem->Nat->O2
abbrev FxKtm2:=x71->FHs->Nat->AV->AV->Mem->Nat->Option Mem
abbrev xcr:=x71->FHs->Nat->Mem->Nat->O2
abbrev x8r:=x71->FHs->Nat->AV->Mem->Nat->O2
abbrev x7r:=x71->FHs->Nat->AV->AV->Mem->Nat->O2
abbrev x8q:=x71->FHs->Nat->AV->AV->AV->Mem->Nat->O2
abbrev FxKtr4:=x71->FHs->Nat->AV->AV->AV->AV->Mem->Nat->O2
abbrev FxKtr5:=x71->FHs->Nat->AV->AV->AV->AV->AV->Mem->Nat->O2
abbrev FxKtr6:=x71->FHs->Nat->AV->AV->AV->AV->AV->AV->Mem->Nat->O2
def x1n:FuncId:=9
def x4d:FuncId:=15
def x9:FuncId:=21
def x1f:FuncId:=36
def xu:FuncId:=37
def xg:FuncId:=38
def xv:FuncId:=40
def xw:FuncId:=41
def xj:FuncId:=43
def xx:FuncId:=44
def xk:FuncId:=45
def xy:FuncId:=46
def xl:FuncId:=47
def xm:FuncId:=48
def xz:FuncId:=49
def x10:FuncId:=71
def x11:FuncId:=74
def xn:FuncId:=78
def xa:FuncId:=80
def x12:FuncId:=87
def x13:FuncId:=89
def x14:FuncId:=91
def x15:FuncId:=92
def x16:FuncId:=104
def x17:FuncId:=114
def x18:FuncId:=116
def x19:FuncId:=118
def x1a:FuncId:=119
def xe:FuncId:=120
def x1b:FuncId:=129
def x1c:FuncId:=130
def x1d:FuncId:=131
def xo:FuncId:=137
def x1e:FuncId:=138
def xp:FuncId:=139
def xq:FuncId:=152
def xr:FuncId:=153
def xh:FuncId:=154
def x1x:FuncId:=160
def x5w:FuncId:=161
def x1z:FuncId:=162
def x1y:FuncId:=163
def x7g:TypeId:=3
def x6x:TypeId:=4
def xf:TypeId:=22
def x20:TypeId:=24
def x3d:TypeId:=28
def xi:TypeId:=35
def x21:TypeId:=37
def x5:TypeId:=67
def xb:TypeId:=74
def x6:TypeId:=79
def x6y:TypeId:=126
def x8:TypeId:=157
def x4:TypeId:=175
def x4x:TypeId:=202
def x1t:TypeId:=219
noncomputable def x7:List AV:=(zeroCells Try.prog x21).getD []
noncomputable def x2e:List AV:=(zeroCells Try.prog x6).getD []
noncomputable def x2f:List AV:=(zeroCells Try.prog x6y).getD []
noncomputable def x1m:List AV:=(zeroCells Try.prog x1t).getD []
end Go.Ix
