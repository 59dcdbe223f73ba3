import Derived.Test.YtjdlceelbnaneaaFxDefs
import Derived.Test.YtjdlceelbnaneaaProg
namespace Go.Ix
open Go.Proofs
def pol:Pol:=λf t=>match f with
 |100=>if t=19 then 2 else if t=27 then 2 else 0
 |101=>if t=26 then 2 else 0
 |120=>if t=31 then 2 else 0
 |123=>if t=10 then 2 else 0
 |132=>if t=27 then 2 else if t=33 then 2 else if t=39 then 2 else if t=46 then 2 else if t=54 then 2 else if t=72 then 2 else if t=92 then 2 else if t=99 then 2 else if t=121 then 2 else if t=132 then 2 else 0
 |141=>if t=26 then 2 else if t=55 then 2 else 0
 |142=>if t=36 then 2 else 0
 |143=>if t=37 then 2 else if t=40 then 2 else if t=43 then 2 else if t=48 then 2 else 0
 |158=>if t=14 then 2 else 0
 |159=>if t=16 then 2 else if t=24 then 2 else if t=32 then 2 else 0
 |_=>0
def NN:Nat:=1048576
abbrev O2:=Option (AV×Mem)
abbrev FnT:=x6f->FHs->List AV->Mem->O2
abbrev FxKr2:=AV->AV->Mem->Nat->O2
abbrev xae:=AV->AV->AV->Mem->Nat->O2
abbrev x6p:=AV->AV->AV->AV->Mem->Nat->O2
abbrev x74:=AV->AV->AV->AV->AV->Mem->Nat->O2
abbrev x7b:=AV->AV->AV->AV->AV->AV->Mem->Nat->O2
abbrev x8w:=AV->AV->AV->AV->AV->AV->AV->Mem->Nat->O2
abbrev FxKr8:=AV->AV->AV->AV->AV->AV->AV->AV->Mem->Nat->O2
abbrev FxKr9:=AV->AV->AV->AV->AV->AV->AV->AV->AV->Mem->Nat->O2
abbrev FxKtr0:=x6f->FHs->Nat->Mem->Nat->O2
abbrev x79:=x6f->FHs->Nat->AV->Mem->Nat->O2
abbrev x7t:=x6f->FHs->Nat->AV->AV->Mem->Nat->O2
abbrev xad:=x6f->FHs->Nat->AV->AV->AV->Mem->Nat->O2
abbrev FxKtr4:=x6f->FHs->Nat->AV->AV->AV->AV->Mem->Nat->O2
def x1f:FuncId:=14
def x3l:FuncId:=15
def x8:FuncId:=21
def xh:FuncId:=24
def xe:FuncId:=28
def xu:FuncId:=53
def xi:FuncId:=62
def xv:FuncId:=63
def xw:FuncId:=64
def xx:FuncId:=65
def xj:FuncId:=66
def xy:FuncId:=67
def xz:FuncId:=68
def xa:FuncId:=80
def xk:FuncId:=82
def xl:FuncId:=96
def x10:FuncId:=100
def xm:FuncId:=101
def x11:FuncId:=102
def x12:FuncId:=103
def xf:FuncId:=122
def x13:FuncId:=123
def xn:FuncId:=132
def x14:FuncId:=133
def xo:FuncId:=136
def x15:FuncId:=140
def x5i:FuncId:=141
def x5h:FuncId:=142
def x5g:FuncId:=143
def x5f:FuncId:=144
def x5e:FuncId:=145
def xp:FuncId:=146
def x5c:FuncId:=147
def x5d:FuncId:=148
def x5k:FuncId:=149
def x16:FuncId:=150
def x8b:TypeId:=3
def x6d:TypeId:=4
def x4m:TypeId:=5
def x5l:TypeId:=9
def x5:TypeId:=29
def x6:TypeId:=53
def xt:TypeId:=64
def xb:TypeId:=71
def x5j:TypeId:=74
def x1m:TypeId:=143
def x48:TypeId:=201
def xr:TypeId:=202
noncomputable def z_int:List AV:=(zeroCells Try.prog x8b).getD []
noncomputable def x7:List AV:=(zeroCells Try.prog x5).getD []
noncomputable def x1i:List AV:=(zeroCells Try.prog xt).getD []
end Go.Ix
