import Derived.Test.YtdfahbenacjgeaaFxDefs
import Derived.Test.YtdfahbenacjgeaaProg
namespace Go.Ix
open Go.Proofs
def pol:Pol:=λf t=>match f with
 |12=>if t=11 then 1 else 0
 |25=>if t=7 then 2 else 0
 |31=>if t=35 then 2 else 0
 |32=>if t=12 then 1 else if t=27 then 2 else 0
 |34=>if t=10 then 2 else if t=12 then 2 else if t=15 then 2 else if t=17 then 2 else 0
 |38=>if t=16 then 2 else 0
 |39=>if t=23 then 2 else if t=28 then 1 else if t=42 then 2 else if t=49 then 2 else 0
 |40=>if t=42 then 2 else 0
 |45=>if t=26 then 2 else 0
 |50=>if t=8 then 2 else 0
 |53=>if t=10 then 2 else 0
 |54=>if t=38 then 2 else 0
 |62=>if t=18 then 2 else if t=27 then 2 else if t=43 then 2 else if t=60 then 2 else 0
 |64=>if t=27 then 2 else if t=33 then 2 else if t=39 then 2 else if t=46 then 2 else if t=54 then 2 else if t=72 then 2 else if t=92 then 2 else if t=99 then 2 else if t=121 then 2 else if t=132 then 2 else 0
 |66=>if t=16 then 2 else 0
 |67=>if t=32 then 2 else 0
 |68=>if t=49 then 2 else if t=101 then 2 else if t=169 then 2 else if t=191 then 2 else if t=205 then 2 else if t=219 then 2 else 0
 |70=>if t=26 then 2 else if t=55 then 2 else 0
 |71=>if t=36 then 2 else 0
 |72=>if t=37 then 2 else if t=40 then 2 else if t=43 then 2 else if t=48 then 2 else 0
 |80=>if t=31 then 2 else if t=46 then 2 else if t=57 then 2 else 0
 |84=>if t=14 then 2 else 0
 |85=>if t=16 then 2 else if t=24 then 2 else if t=32 then 2 else 0
 |_=>0
def NN:Nat:=18446744073709551616
abbrev O2:=Option (AV×Mem)
abbrev FnT:=qI->FHs->List AV->Mem->O2
abbrev B4:=AV->AV->Mem->Nat->O2
abbrev vM:=AV->AV->AV->Mem->Nat->O2
abbrev rU:=AV->AV->AV->AV->Mem->Nat->O2
abbrev qS:=AV->AV->AV->AV->AV->Mem->Nat->O2
abbrev rF:=AV->AV->AV->AV->AV->AV->Mem->Nat->O2
abbrev uH:=AV->AV->AV->AV->AV->AV->AV->Mem->Nat->O2
abbrev M6:=AV->AV->AV->AV->AV->AV->AV->AV->Mem->Nat->O2
abbrev G4:=AV->AV->AV->AV->AV->AV->AV->AV->AV->Mem->Nat->O2
abbrev FxKtm7:=qI->FHs->Nat->AV->AV->AV->AV->AV->AV->AV->Mem->Nat->Option Mem
abbrev zH:=qI->FHs->Nat->Mem->Nat->O2
abbrev rM:=qI->FHs->Nat->AV->Mem->Nat->O2
abbrev rR:=qI->FHs->Nat->AV->AV->Mem->Nat->O2
abbrev vL:=qI->FHs->Nat->AV->AV->AV->Mem->Nat->O2
abbrev wR:=qI->FHs->Nat->AV->AV->AV->AV->Mem->Nat->O2
abbrev W6:=qI->FHs->Nat->AV->AV->AV->AV->AV->Mem->Nat->O2
abbrev FxKtr6:=qI->FHs->Nat->AV->AV->AV->AV->AV->AV->Mem->Nat->O2
abbrev FxKtr7:=qI->FHs->Nat->AV->AV->AV->AV->AV->AV->AV->Mem->Nat->O2
def eN:FuncId:=3
def mU:FuncId:=4
def cP:FuncId:=5
def cQ:FuncId:=6
def bK:FuncId:=7
def aP:FuncId:=8
def cR:FuncId:=9
def bL:FuncId:=10
def cS:FuncId:=11
def cT:FuncId:=12
def cU:FuncId:=15
def aH:FuncId:=16
def cV:FuncId:=17
def cW:FuncId:=18
def cX:FuncId:=19
def fS:FuncId:=20
def bM:FuncId:=21
def dO:FuncId:=22
def aJ:FuncId:=23
def cY:FuncId:=24
def aS:FuncId:=25
def bN:FuncId:=26
def bO:FuncId:=27
def bP:FuncId:=28
def aI:FuncId:=29
def bQ:FuncId:=30
def aT:FuncId:=31
def bR:FuncId:=32
def bS:FuncId:=33
def cZ:FuncId:=35
def dA:FuncId:=37
def cO:FuncId:=38
def bT:FuncId:=39
def aM:FuncId:=40
def dB:FuncId:=41
def aU:FuncId:=42
def bU:FuncId:=43
def dC:FuncId:=44
def aK:FuncId:=45
def aL:FuncId:=46
def aV:FuncId:=48
def bV:FuncId:=49
def dD:FuncId:=50
def bW:FuncId:=51
def bX:FuncId:=52
def dE:FuncId:=53
def aQ:FuncId:=54
def dF:FuncId:=55
def dG:FuncId:=56
def aX:FuncId:=57
def dH:FuncId:=59
def dI:FuncId:=60
def aF:FuncId:=61
def eO:FuncId:=62
def bY:FuncId:=63
def bZ:FuncId:=64
def dJ:FuncId:=65
def dK:FuncId:=66
def cA:FuncId:=67
def xg:FuncId:=68
def dL:FuncId:=69
def x2g:FuncId:=70
def x2f:FuncId:=71
def x2e:FuncId:=72
def x2d:FuncId:=73
def x2c:FuncId:=74
def cB:FuncId:=75
def x2a:FuncId:=76
def x2b:FuncId:=77
def x2i:FuncId:=78
def dM:FuncId:=79
def cC:FuncId:=86
def sD:TypeId:=3
def kJ:TypeId:=4
def aA:TypeId:=5
def aB:TypeId:=9
def aD:TypeId:=22
def fD:TypeId:=24
def aN:TypeId:=25
def qE:TypeId:=27
def cD:TypeId:=32
def qF:TypeId:=33
def x44:TypeId:=38
def aG:TypeId:=39
def cG:TypeId:=40
def aC:TypeId:=43
def xm:TypeId:=45
def fE:TypeId:=51
def xn:TypeId:=62
def x45:TypeId:=63
def xo:TypeId:=66
def kK:TypeId:=76
def aO:TypeId:=77
def aE:TypeId:=79
def x46:TypeId:=84
def xd:TypeId:=86
def eZ:TypeId:=91
def x47:TypeId:=95
def x48:TypeId:=97
def x49:TypeId:=101
def oH:TypeId:=107
def pE:TypeId:=119
def x2h:TypeId:=133
def cN:TypeId:=135
noncomputable def wJ:List AV:=(zeroCells Try.prog sD).getD []
noncomputable def nZ:List AV:=(zeroCells Try.prog kJ).getD []
noncomputable def nA:List AV:=(zeroCells Try.prog fD).getD []
noncomputable def bC:List AV:=(zeroCells Try.prog cD).getD []
noncomputable def aR:List AV:=(zeroCells Try.prog qF).getD []
noncomputable def mV:List AV:=(zeroCells Try.prog x44).getD []
noncomputable def oB:List AV:=(zeroCells Try.prog aC).getD []
noncomputable def fK:List AV:=(zeroCells Try.prog xm).getD []
noncomputable def fO:List AV:=(zeroCells Try.prog fE).getD []
noncomputable def cE:List AV:=(zeroCells Try.prog xn).getD []
noncomputable def x9:List AV:=(zeroCells Try.prog x45).getD []
noncomputable def dN:List AV:=(zeroCells Try.prog xo).getD []
noncomputable def dP:List AV:=(zeroCells Try.prog kK).getD []
noncomputable def xe:List AV:=(zeroCells Try.prog aO).getD []
noncomputable def bB:List AV:=(zeroCells Try.prog aE).getD []
noncomputable def nK:List AV:=(zeroCells Try.prog x46).getD []
noncomputable def xc:List AV:=(zeroCells Try.prog x47).getD []
noncomputable def oC:List AV:=(zeroCells Try.prog x48).getD []
noncomputable def iO:List AV:=(zeroCells Try.prog x49).getD []
end Go.Ix
