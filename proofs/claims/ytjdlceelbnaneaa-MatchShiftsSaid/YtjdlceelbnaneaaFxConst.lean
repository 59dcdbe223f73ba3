import Derived.Test.YtjdlceelbnaneaaFxDefs
import Derived.Test.YtjdlceelbnaneaaProg
namespace Go.Ix
open Go.Proofs
def pol:Pol:=λf t=>match f with
 |100=>if t=19 then 2 else if t=27 then 2 else 0
 |101=>if t=26 then 2 else 0
 |120=>if t=31 then 2 else 0
 |123=>if t=10 then 2 else 0
 |132=>if t=27 then 2 else if t=33 then 2 else if t=39 then 2 else if t=46 then 2 else if t=54 then 2 else if t=72 then 2 else if t=92 then 2 else if t=99 then 2 else if t=121 then 2 else if t=132 then 2 else 0
 |141=>if t=26 then 2 else if t=55 then 2 else 0
 |142=>if t=36 then 2 else 0
 |143=>if t=37 then 2 else if t=40 then 2 else if t=43 then 2 else if t=48 then 2 else 0
 |158=>if t=14 then 2 else 0
 |159=>if t=16 then 2 else if t=24 then 2 else if t=32 then 2 else 0
 |_=>0
def NN:Nat:=1048576
abbrev O2:=Option (AV×Mem)
abbrev FnT:=x2i->FHs->List AV->Mem->O2
abbrev FxKr2:=AV->AV->Mem->Nat->O2
abbrev FxKr3:=AV->AV->AV->Mem->Nat->O2
abbrev FxKtr0:=x2i->FHs->Nat->Mem->Nat->O2
abbrev x5j:=x2i->FHs->Nat->AV->Mem->Nat->O2
abbrev FxKtr2:=x2i->FHs->Nat->AV->AV->Mem->Nat->O2
abbrev x4m:=x2i->FHs->Nat->AV->AV->AV->Mem->Nat->O2
abbrev FxKtr6:=x2i->FHs->Nat->AV->AV->AV->AV->AV->AV->Mem->Nat->O2
def xk:FuncId:=10
def x1f:FuncId:=15
def x9:FuncId:=21
def xf:FuncId:=29
def xb:FuncId:=32
def xg:FuncId:=50
def xc:FuncId:=51
def xh:FuncId:=52
def xa:FuncId:=80
def xi:FuncId:=93
def xx:FuncId:=94
def x1o:FuncId:=95
def xj:FuncId:=115
def xd:FuncId:=121
def x50:TypeId:=3
def x2e:TypeId:=4
def x7:TypeId:=29
def x1q:TypeId:=55
def x12:TypeId:=57
def x22:TypeId:=71
def x2f:TypeId:=159
noncomputable def x8:List AV:=(zeroCells Try.prog x7).getD []
noncomputable def x1k:List AV:=(zeroCells Try.prog x2f).getD []
end Go.Ix
