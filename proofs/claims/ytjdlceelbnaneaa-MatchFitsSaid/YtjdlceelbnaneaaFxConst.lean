import Derived.Test.YtjdlceelbnaneaaFxDefs
import Derived.Test.YtjdlceelbnaneaaProg
namespace Go.Ix
open Go.Proofs
def pol:Pol:=λf t=>match f with
 |100=>if t=19 then 2 else if t=27 then 2 else 0
 |101=>if t=26 then 2 else 0
 |120=>if t=31 then 2 else 0
 |123=>if t=10 then 2 else 0
 |132=>if t=27 then 2 else if t=33 then 2 else if t=39 then 2 else if t=46 then 2 else if t=54 then 2 else if t=72 then 2 else if t=92 then 2 else if t=99 then 2 else if t=121 then 2 else if t=132 then 2 else 0
 |141=>if t=26 then 2 else if t=55 then 2 else 0
 |142=>if t=36 then 2 else 0
 |143=>if t=37 then 2 else if t=40 then 2 else if t=43 then 2 else if t=48 then 2 else 0
 |158=>if t=14 then 2 else 0
 |159=>if t=16 then 2 else if t=24 then 2 else if t=32 then 2 else 0
 |_=>0
def NN:Nat:=1048576
abbrev O2:=Option (AV×Mem)
abbrev FnT:=x7r->FHs->List AV->Mem->O2
abbrev FxKr10:=AV->AV->AV->AV->AV->AV->AV->AV->AV->AV->Mem->Nat->O2
abbrev FxKr11:=AV->AV->AV->AV->AV->AV->AV->AV->AV->AV->AV->Mem->Nat->O2
abbrev x9o:=AV->AV->Mem->Nat->O2
abbrev x8r:=AV->AV->AV->Mem->Nat->O2
abbrev x8w:=AV->AV->AV->AV->Mem->Nat->O2
abbrev x8j:=AV->AV->AV->AV->AV->Mem->Nat->O2
abbrev x88:=AV->AV->AV->AV->AV->AV->Mem->Nat->O2
abbrev x9y:=AV->AV->AV->AV->AV->AV->AV->Mem->Nat->O2
abbrev FxKr8:=AV->AV->AV->AV->AV->AV->AV->AV->Mem->Nat->O2
abbrev x9z:=AV->AV->AV->AV->AV->AV->AV->AV->AV->Mem->Nat->O2
abbrev xe0:=x7r->FHs->Nat->Mem->Nat->O2
abbrev x8e:=x7r->FHs->Nat->AV->Mem->Nat->O2
abbrev xfi:=x7r->FHs->Nat->AV->AV->AV->AV->AV->AV->AV->AV->AV->AV->Mem->Nat->O2
abbrev xae:=x7r->FHs->Nat->AV->AV->Mem->Nat->O2
abbrev xao:=x7r->FHs->Nat->AV->AV->AV->Mem->Nat->O2
abbrev xc8:=x7r->FHs->Nat->AV->AV->AV->AV->Mem->Nat->O2
abbrev FxKtr5:=x7r->FHs->Nat->AV->AV->AV->AV->AV->Mem->Nat->O2
def x1w:FuncId:=11
def x4o:FuncId:=15
def xd:FuncId:=21
def xt:FuncId:=24
def x16:FuncId:=26
def x17:FuncId:=27
def xu:FuncId:=28
def x18:FuncId:=29
def x19:FuncId:=51
def x1a:FuncId:=53
def x1b:FuncId:=54
def x1c:FuncId:=55
def x1d:FuncId:=56
def xz:FuncId:=57
def x10:FuncId:=58
def x1e:FuncId:=62
def x1f:FuncId:=65
def x11:FuncId:=79
def xe:FuncId:=80
def xv:FuncId:=82
def x12:FuncId:=83
def x1g:FuncId:=84
def x30:FuncId:=94
def x4y:FuncId:=95
def xj:FuncId:=96
def x20:FuncId:=97
def x1z:FuncId:=98
def x1h:FuncId:=100
def x1i:FuncId:=103
def x13:FuncId:=107
def x3o:FuncId:=109
def x5n:FuncId:=110
def x5o:FuncId:=111
def x2a:FuncId:=112
def x29:FuncId:=113
def xw:FuncId:=122
def xac:TypeId:=3
def x7j:TypeId:=4
def x7k:TypeId:=29
def x8:TypeId:=53
def xh:TypeId:=55
def x7:TypeId:=57
def x15:TypeId:=64
def x6s:TypeId:=71
def x1r:TypeId:=143
def x7l:TypeId:=159
def x7m:TypeId:=162
def x7n:TypeId:=163
def x28:TypeId:=177
def x7o:TypeId:=182
def x7p:TypeId:=183
noncomputable def x5z:List AV:=(zeroCells Try.prog x7k).getD []
noncomputable def x5h:List AV:=(zeroCells Try.prog xh).getD []
noncomputable def xb:List AV:=(zeroCells Try.prog x7).getD []
noncomputable def x1j:List AV:=(zeroCells Try.prog x15).getD []
noncomputable def x4x:List AV:=(zeroCells Try.prog x7l).getD []
noncomputable def x60:List AV:=(zeroCells Try.prog x7m).getD []
noncomputable def x61:List AV:=(zeroCells Try.prog x7n).getD []
noncomputable def x27:List AV:=(zeroCells Try.prog x28).getD []
noncomputable def x62:List AV:=(zeroCells Try.prog x7o).getD []
noncomputable def x63:List AV:=(zeroCells Try.prog x7p).getD []
end Go.Ix
