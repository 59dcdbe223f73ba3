import Derived.Test.YtacloojepepcfaaFxDefs
import Derived.Test.YtacloojepepcfaaProg
namespace Go.Ix
open Go.Proofs
def pol:Pol:=λf t=>match f with
 |7=>if t=66 then 1 else if t=80 then 2 else 0
 |12=>if t=18 then 1 else if t=32 then 3 else 0
 |14=>if t=51 then 1 else if t=54 then 4 else if t=61 then 4 else 0
 |15=>if t=22 then 1 else if t=32 then 1 else if t=71 then 3 else 0
 |17=>if t=19 then 2 else 0
 |22=>if t=37 then 3 else 0
 |25=>if t=1000000 then 4 else 0
 |26=>if t=19 then 1 else if t=93 then 4 else 0
 |27=>if t=8 then 2 else 0
 |33=>if t=12 then 1 else if t=17 then 2 else if t=22 then 2 else 0
 |35=>if t=52 then 2 else 0
 |36=>if t=9 then 4 else 0
 |41=>if t=7 then 1 else if t=17 then 4 else if t=25 then 2 else 0
 |42=>if t=18 then 2 else 0
 |45=>if t=24 then 1 else 0
 |46=>if t=7 then 2 else 0
 |47=>if t=10 then 2 else 0
 |50=>if t=16 then 2 else 0
 |52=>if t=15 then 4 else 0
 |55=>if t=12 then 1 else if t=40 then 2 else 0
 |56=>if t=18 then 2 else 0
 |57=>if t=19 then 1 else if t=86 then 2 else 0
 |62=>if t=51 then 2 else 0
 |67=>if t=49 then 2 else 0
 |69=>if t=72 then 2 else 0
 |_=>0
def NN:Nat:=18446744073709551616
abbrev O2:=Option (AV×Mem)
abbrev FnT:=x7w->FHs->List AV->Mem->O2
abbrev xa8:=AV->AV->AV->AV->AV->AV->AV->AV->AV->AV->Mem->Nat->O2
abbrev x91:=AV->AV->AV->AV->AV->AV->AV->AV->AV->AV->AV->Mem->Nat->O2
abbrev x9n:=AV->AV->AV->AV->AV->AV->AV->AV->AV->AV->AV->AV->Mem->Nat->O2
abbrev FxKr13:=AV->AV->AV->AV->AV->AV->AV->AV->AV->AV->AV->AV->AV->Mem->Nat->O2
abbrev FxKr2:=AV->AV->Mem->Nat->O2
abbrev FxKr3:=AV->AV->AV->Mem->Nat->O2
abbrev x9o:=AV->AV->AV->AV->Mem->Nat->O2
abbrev x9t:=AV->AV->AV->AV->AV->Mem->Nat->O2
abbrev x8z:=AV->AV->AV->AV->AV->AV->Mem->Nat->O2
abbrev x9a:=AV->AV->AV->AV->AV->AV->AV->Mem->Nat->O2
abbrev xat:=AV->AV->AV->AV->AV->AV->AV->AV->Mem->Nat->O2
abbrev xc3:=AV->AV->AV->AV->AV->AV->AV->AV->AV->Mem->Nat->O2
abbrev FxKtr0:=x7w->FHs->Nat->Mem->Nat->O2
abbrev xa2:=x7w->FHs->Nat->AV->Mem->Nat->O2
abbrev xgo:=x7w->FHs->Nat->AV->AV->AV->AV->AV->AV->AV->AV->AV->AV->Mem->Nat->O2
abbrev FxKtr12:=x7w->FHs->Nat->AV->AV->AV->AV->AV->AV->AV->AV->AV->AV->AV->AV->Mem->Nat->O2
abbrev FxKtr13:=x7w->FHs->Nat->AV->AV->AV->AV->AV->AV->AV->AV->AV->AV->AV->AV->AV->Mem->Nat->O2
abbrev x8w:=x7w->FHs->Nat->AV->AV->Mem->Nat->O2
abbrev xc2:=x7w->FHs->Nat->AV->AV->AV->Mem->Nat->O2
abbrev xe7:=x7w->FHs->Nat->AV->AV->AV->AV->Mem->Nat->O2
abbrev FxKtr5:=x7w->FHs->Nat->AV->AV->AV->AV->AV->Mem->Nat->O2
abbrev FxKtr7:=x7w->FHs->Nat->AV->AV->AV->AV->AV->AV->AV->Mem->Nat->O2
abbrev FxKtr9:=x7w->FHs->Nat->AV->AV->AV->AV->AV->AV->AV->AV->AV->Mem->Nat->O2
def x1r:FuncId:=3
def x4g:FuncId:=4
def xh:FuncId:=5
def xa:FuncId:=6
def xb:FuncId:=7
def xq:FuncId:=8
def xr:FuncId:=9
def xi:FuncId:=10
def xj:FuncId:=11
def x13:FuncId:=18
def xk:FuncId:=19
def x9:FuncId:=20
def xe:FuncId:=21
def xt:FuncId:=22
def x14:FuncId:=23
def xl:FuncId:=24
def x4h:FuncId:=25
def xu:FuncId:=26
def xd:FuncId:=27
def x15:FuncId:=28
def xm:FuncId:=29
def xf:FuncId:=30
def x16:FuncId:=31
def xv:FuncId:=39
def xc:FuncId:=40
def x17:FuncId:=44
def xn:FuncId:=45
def x18:FuncId:=46
def xw:FuncId:=47
def x12:FuncId:=50
def x19:FuncId:=63
def x95:TypeId:=3
def x7t:TypeId:=4
def x69:TypeId:=9
def x7:TypeId:=22
def xp:TypeId:=24
def x64:TypeId:=25
def x2a:TypeId:=65
def x7u:TypeId:=67
def x1l:TypeId:=68
def x5u:TypeId:=82
noncomputable def xbk:List AV:=(zeroCells Try.prog x95).getD []
noncomputable def x34:List AV:=(zeroCells Try.prog x7).getD []
noncomputable def x8:List AV:=(zeroCells Try.prog xp).getD []
noncomputable def x4k:List AV:=(zeroCells Try.prog x2a).getD []
noncomputable def xo:List AV:=(zeroCells Try.prog x7u).getD []
end Go.Ix
