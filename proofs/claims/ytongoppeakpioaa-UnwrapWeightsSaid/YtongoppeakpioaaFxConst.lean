import Derived.Test.YtongoppeakpioaaFxDefs
import Derived.Test.YtongoppeakpioaaProg
namespace Go.Ix
open Go.Proofs
def pol:Pol:=λf t=>match f with
 |8=>if t=18 then 1 else if t=32 then 3 else 0
 |10=>if t=51 then 1 else if t=54 then 4 else if t=61 then 4 else 0
 |11=>if t=22 then 1 else if t=32 then 1 else if t=71 then 3 else 0
 |13=>if t=19 then 2 else 0
 |21=>if t=12 then 1 else if t=17 then 2 else if t=22 then 2 else 0
 |24=>if t=52 then 2 else 0
 |25=>if t=9 then 4 else 0
 |30=>if t=7 then 1 else if t=17 then 4 else if t=25 then 2 else 0
 |31=>if t=18 then 2 else 0
 |36=>if t=49 then 2 else 0
 |40=>if t=16 then 2 else 0
 |42=>if t=15 then 4 else 0
 |45=>if t=12 then 1 else if t=40 then 2 else 0
 |46=>if t=18 then 2 else 0
 |47=>if t=19 then 1 else if t=86 then 2 else 0
 |48=>if t=8 then 2 else 0
 |50=>if t=24 then 1 else 0
 |53=>if t=51 then 2 else 0
 |60=>if t=7 then 2 else 0
 |61=>if t=10 then 2 else 0
 |64=>if t=72 then 2 else 0
 |_=>0
def NN:Nat:=18446744073709551616
abbrev O2:=Option (AV×Mem)
abbrev FnT:=x3p->FHs->List AV->Mem->O2
abbrev x7n:=AV->AV->AV->AV->AV->AV->AV->AV->AV->AV->Mem->Nat->O2
abbrev x86:=AV->AV->AV->Mem->Nat->O2
abbrev FxKr4:=AV->AV->AV->AV->Mem->Nat->O2
abbrev x55:=AV->AV->AV->AV->AV->Mem->Nat->O2
abbrev x4i:=AV->AV->AV->AV->AV->AV->Mem->Nat->O2
abbrev FxKr7:=AV->AV->AV->AV->AV->AV->AV->Mem->Nat->O2
abbrev FxKtm3:=x3p->FHs->Nat->AV->AV->AV->Mem->Nat->Option Mem
abbrev FxKtr0:=x3p->FHs->Nat->Mem->Nat->O2
abbrev x6v:=x3p->FHs->Nat->AV->Mem->Nat->O2
abbrev x5z:=x3p->FHs->Nat->AV->AV->Mem->Nat->O2
abbrev x7m:=x3p->FHs->Nat->AV->AV->AV->Mem->Nat->O2
abbrev FxKtr4:=x3p->FHs->Nat->AV->AV->AV->AV->Mem->Nat->O2
def xz:FuncId:=3
def x2a:FuncId:=4
def xn:FuncId:=5
def xo:FuncId:=6
def xe:FuncId:=7
def xf:FuncId:=14
def xg:FuncId:=15
def xh:FuncId:=16
def xp:FuncId:=17
def xi:FuncId:=18
def xq:FuncId:=19
def xd:FuncId:=23
def x13:FuncId:=33
def x37:FuncId:=34
def xr:FuncId:=35
def xb:FuncId:=36
def xj:FuncId:=37
def x15:FuncId:=55
def x16:FuncId:=56
def x4n:TypeId:=3
def x3m:TypeId:=4
def x8:TypeId:=22
def x3n:TypeId:=25
def x7:TypeId:=26
def x6:TypeId:=55
def x3:TypeId:=56
def x1t:TypeId:=61
def x2s:TypeId:=104
noncomputable def x84:List AV:=(zeroCells Try.prog x4n).getD []
noncomputable def xc:List AV:=(zeroCells Try.prog x3n).getD []
noncomputable def x2r:List AV:=(zeroCells Try.prog x7).getD []
noncomputable def x2q:List AV:=(zeroCells Try.prog x6).getD []
noncomputable def xt:List AV:=(zeroCells Try.prog x1t).getD []
end Go.Ix
