import Derived.Test.YtjdlceelbnaneaaFxDefs
import Derived.Test.YtjdlceelbnaneaaProg
namespace Go.Ix
open Go.Proofs
def pol:Pol:=λf t=>match f with
 |100=>if t=19 then 2 else if t=27 then 2 else 0
 |101=>if t=26 then 2 else 0
 |120=>if t=31 then 2 else 0
 |123=>if t=10 then 2 else 0
 |132=>if t=27 then 2 else if t=33 then 2 else if t=39 then 2 else if t=46 then 2 else if t=54 then 2 else if t=72 then 2 else if t=92 then 2 else if t=99 then 2 else if t=121 then 2 else if t=132 then 2 else 0
 |141=>if t=26 then 2 else if t=55 then 2 else 0
 |142=>if t=36 then 2 else 0
 |143=>if t=37 then 2 else if t=40 then 2 else if t=43 then 2 else if t=48 then 2 else 0
 |158=>if t=14 then 2 else 0
 |159=>if t=16 then 2 else if t=24 then 2 else if t=32 then 2 else 0
 |_=>0
def NN:Nat:=1048576
abbrev O2:=Option (AV×Mem)
abbrev FnT:=x82->FHs->List AV->Mem->O2
abbrev FxKr14:=AV->AV->AV->AV->AV->AV->AV->AV->AV->AV->AV->AV->AV->AV->Mem->Nat->O2
abbrev FxKr2:=AV->AV->Mem->Nat->O2
abbrev xa3:=AV->AV->AV->Mem->Nat->O2
abbrev x8r:=AV->AV->AV->AV->Mem->Nat->O2
abbrev xai:=AV->AV->AV->AV->AV->Mem->Nat->O2
abbrev xah:=AV->AV->AV->AV->AV->AV->Mem->Nat->O2
abbrev FxKr7:=AV->AV->AV->AV->AV->AV->AV->Mem->Nat->O2
abbrev x9m:=AV->AV->AV->AV->AV->AV->AV->AV->AV->Mem->Nat->O2
abbrev xc4:=x82->FHs->Nat->Mem->Nat->O2
abbrev x94:=x82->FHs->Nat->AV->Mem->Nat->O2
abbrev x90:=x82->FHs->Nat->AV->AV->Mem->Nat->O2
abbrev x98:=x82->FHs->Nat->AV->AV->AV->Mem->Nat->O2
abbrev FxKtr4:=x82->FHs->Nat->AV->AV->AV->AV->Mem->Nat->O2
abbrev FxKtr5:=x82->FHs->Nat->AV->AV->AV->AV->AV->Mem->Nat->O2
abbrev FxKtr6:=x82->FHs->Nat->AV->AV->AV->AV->AV->AV->Mem->Nat->O2
def x1w:FuncId:=13
def x4z:FuncId:=15
def x7:FuncId:=21
def xw:FuncId:=34
def x1m:FuncId:=36
def xx:FuncId:=37
def xj:FuncId:=38
def xy:FuncId:=40
def xz:FuncId:=41
def x10:FuncId:=43
def x11:FuncId:=44
def x12:FuncId:=51
def xk:FuncId:=59
def x13:FuncId:=71
def x14:FuncId:=78
def xc:FuncId:=80
def x15:FuncId:=85
def x21:FuncId:=86
def x16:FuncId:=87
def x17:FuncId:=88
def x18:FuncId:=89
def x19:FuncId:=91
def x1a:FuncId:=93
def x5f:FuncId:=95
def x1b:FuncId:=99
def x1c:FuncId:=114
def xg:FuncId:=115
def x1d:FuncId:=116
def xl:FuncId:=117
def x1e:FuncId:=118
def x1f:FuncId:=119
def xh:FuncId:=121
def x1g:FuncId:=129
def x1h:FuncId:=130
def x1i:FuncId:=131
def xm:FuncId:=137
def x1j:FuncId:=138
def xn:FuncId:=139
def xo:FuncId:=152
def xp:FuncId:=153
def xi:FuncId:=154
def x27:FuncId:=160
def x6r:FuncId:=161
def x29:FuncId:=162
def x28:FuncId:=163
def y_int:TypeId:=3
def x7t:TypeId:=4
def xa:TypeId:=22
def xv:TypeId:=24
def xb:TypeId:=29
def x9:TypeId:=35
def x2a:TypeId:=37
def x7u:TypeId:=55
def x7v:TypeId:=57
def x4:TypeId:=67
def x2r:TypeId:=71
def xd:TypeId:=74
def x5:TypeId:=79
def x7w:TypeId:=107
def x7x:TypeId:=126
def x7y:TypeId:=149
def x6:TypeId:=157
def x7z:TypeId:=159
def x3:TypeId:=175
def x5q:TypeId:=202
def x23:TypeId:=219
noncomputable def x1r:List AV:=(zeroCells Try.prog xb).getD []
noncomputable def x8:List AV:=(zeroCells Try.prog x2a).getD []
noncomputable def x1l:List AV:=(zeroCells Try.prog x7u).getD []
noncomputable def x2f:List AV:=(zeroCells Try.prog x7v).getD []
noncomputable def x1z:List AV:=(zeroCells Try.prog x5).getD []
noncomputable def x2g:List AV:=(zeroCells Try.prog x7w).getD []
noncomputable def x55:List AV:=(zeroCells Try.prog x7x).getD []
noncomputable def x5c:List AV:=(zeroCells Try.prog x7y).getD []
noncomputable def x5g:List AV:=(zeroCells Try.prog x7z).getD []
noncomputable def x1v:List AV:=(zeroCells Try.prog x23).getD []
end Go.Ix
