import Derived.Test.YtjdlceelbnaneaaFxDefs
import Derived.Test.YtjdlceelbnaneaaProg
namespace Go.Ix
open Go.Proofs
def pol:Pol:=λf t=>match f with
 |100=>if t=19 then 2 else if t=27 then 2 else 0
 |101=>if t=26 then 2 else 0
 |120=>if t=31 then 2 else 0
 |123=>if t=10 then 2 else 0
 |132=>if t=27 then 2 else if t=33 then 2 else if t=39 then 2 else if t=46 then 2 else if t=54 then 2 else if t=72 then 2 else if t=92 then 2 else if t=99 then 2 else if t=121 then 2 else if t=132 then 2 else 0
 |141=>if t=26 then 2 else if t=55 then 2 else 0
 |142=>if t=36 then 2 else 0
 |143=>if t=37 then 2 else if t=40 then 2 else if t=43 then 2 else if t=48 then 2 else 0
 |158=>if t=14 then 2 else 0
 |159=>if t=16 then 2 else if t=24 then 2 else if t=32 then 2 else 0
 |_=>0
def NN:Nat:=1048576
abbrev O2:=Option (AV×Mem)
abbrev FnT:=x5a->FHs->List AV->Mem->O2
abbrev FxKr10:=AV->AV->AV->AV->AV->AV->AV->AV->AV->AV->Mem->Nat->O2
abbrev FxKr11:=AV->AV->AV->AV->AV->AV->AV->AV->AV->AV->AV->Mem->Nat->O2
abbrev x7y:=AV->AV->Mem->Nat->O2
abbrev x9g:=AV->AV->AV->Mem->Nat->O2
abbrev x6d:=AV->AV->AV->AV->Mem->Nat->O2
abbrev x5u:=AV->AV->AV->AV->AV->AV->Mem->Nat->O2
abbrev FxKr7:=AV->AV->AV->AV->AV->AV->AV->Mem->Nat->O2
abbrev FxKr8:=AV->AV->AV->AV->AV->AV->AV->AV->Mem->Nat->O2
abbrev x7a:=AV->AV->AV->AV->AV->AV->AV->AV->AV->Mem->Nat->O2
abbrev FxKtr0:=x5a->FHs->Nat->Mem->Nat->O2
abbrev x61:=x5a->FHs->Nat->AV->Mem->Nat->O2
abbrev x8u:=x5a->FHs->Nat->AV->AV->Mem->Nat->O2
abbrev x8c:=x5a->FHs->Nat->AV->AV->AV->Mem->Nat->O2
abbrev FxKtr4:=x5a->FHs->Nat->AV->AV->AV->AV->Mem->Nat->O2
abbrev FxKtr5:=x5a->FHs->Nat->AV->AV->AV->AV->AV->Mem->Nat->O2
def x1e:FuncId:=6
def x3g:FuncId:=15
def x6:FuncId:=21
def xu:FuncId:=26
def xh:FuncId:=27
def xv:FuncId:=28
def xw:FuncId:=29
def xo:FuncId:=30
def xm:FuncId:=31
def xa:FuncId:=32
def xx:FuncId:=62
def xy:FuncId:=65
def xb:FuncId:=80
def xz:FuncId:=82
def x10:FuncId:=83
def x11:FuncId:=84
def x12:FuncId:=96
def x13:FuncId:=100
def x14:FuncId:=103
def xn:FuncId:=107
def x2h:FuncId:=109
def x3q:FuncId:=110
def x3r:FuncId:=111
def x1n:FuncId:=112
def x1m:FuncId:=113
def xi:FuncId:=122
def x7v:TypeId:=3
def x55:TypeId:=4
def x56:TypeId:=29
def x8:TypeId:=53
def xr:TypeId:=55
def x7:TypeId:=57
def xt:TypeId:=64
def x19:TypeId:=143
def x1l:TypeId:=177
def x57:TypeId:=182
def x58:TypeId:=183
noncomputable def x41:List AV:=(zeroCells Try.prog x56).getD []
noncomputable def xd:List AV:=(zeroCells Try.prog x7).getD []
noncomputable def xe:List AV:=(zeroCells Try.prog xt).getD []
noncomputable def x1k:List AV:=(zeroCells Try.prog x1l).getD []
noncomputable def x42:List AV:=(zeroCells Try.prog x57).getD []
noncomputable def x43:List AV:=(zeroCells Try.prog x58).getD []
end Go.Ix
