import Derived.Test.YtjdlceelbnaneaaFxDefs
import Derived.Test.YtjdlceelbnaneaaProg
namespace Go.Ix
open Go.Proofs
def pol:Pol:=λf t=>match f with
 |100=>if t=19 then 2 else if t=27 then 2 else 0
 |101=>if t=26 then 2 else 0
 |120=>if t=31 then 2 else 0
 |123=>if t=10 then 2 else 0
 |132=>if t=27 then 2 else if t=33 then 2 else if t=39 then 2 else if t=46 then 2 else if t=54 then 2 else if t=72 then 2 else if t=92 then 2 else if t=99 then 2 else if t=121 then 2 else if t=132 then 2 else 0
 |141=>if t=26 then 2 else if t=55 then 2 else 0
 |142=>if t=36 then 2 else 0
 |143=>if t=37 then 2 else if t=40 then 2 else if t=43 then 2 else if t=48 then 2 else 0
 |158=>if t=14 then 2 else 0
 |159=>if t=16 then 2 else if t=24 then 2 else if t=32 then 2 else 0
 |_=>0
def NN:Nat:=1048576
abbrev O2:=Option (AV×Mem)
abbrev FnT:=x1h->FHs->List AV->Mem->O2
abbrev x47:=AV->AV->AV->AV->AV->Mem->Nat->O2
abbrev FxKtr1:=x1h->FHs->Nat->AV->Mem->Nat->O2
abbrev x4q:=x1h->FHs->Nat->AV->AV->Mem->Nat->O2
abbrev FxKtr3:=x1h->FHs->Nat->AV->AV->AV->Mem->Nat->O2
abbrev FxKtr4:=x1h->FHs->Nat->AV->AV->AV->AV->Mem->Nat->O2
def x6:FuncId:=7
def xl:FuncId:=15
def x1:FuncId:=21
def x2:FuncId:=33
def x4:FuncId:=34
def x13:FuncId:=35
def xq:FuncId:=36
def x3:FuncId:=80
def x5:FuncId:=85
def x15:FuncId:=86
def x46:TypeId:=3
def x1d:TypeId:=4
def x7:TypeId:=22
def x0:TypeId:=67
def xt:TypeId:=71
def x12:TypeId:=74
def x1e:TypeId:=149
noncomputable def x14:List AV:=(zeroCells Try.prog x0).getD []
noncomputable def x16:List AV:=(zeroCells Try.prog x1e).getD []
end Go.Ix
