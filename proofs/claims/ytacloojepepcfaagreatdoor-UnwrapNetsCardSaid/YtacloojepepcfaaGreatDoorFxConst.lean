import Derived.Test.YtacloojepepcfaaGreatDoorFxDefs
import Derived.Test.YtacloojepepcfaaGreatDoorProg
namespace Go.Ix
open Go.Proofs
def pol:Pol:=λf t=>match f with
 |11=>if t=13 then 1 else 0
 |16=>if t=18 then 1 else if t=32 then 3 else 0
 |18=>if t=51 then 1 else if t=54 then 4 else if t=61 then 4 else 0
 |19=>if t=22 then 1 else if t=32 then 1 else if t=71 then 3 else 0
 |21=>if t=19 then 2 else 0
 |25=>if t=52 then 2 else 0
 |26=>if t=1000000 then 1 else 0
 |27=>if t=1000000 then 5 else 0
 |30=>if t=7 then 1 else 0
 |31=>if t=1000000 then 2 else 0
 |38=>if t=12 then 1 else if t=17 then 2 else if t=22 then 2 else 0
 |40=>if t=9 then 4 else 0
 |45=>if t=7 then 1 else if t=17 then 4 else if t=25 then 2 else 0
 |46=>if t=18 then 2 else 0
 |48=>if t=12 then 1 else if t=40 then 2 else 0
 |49=>if t=18 then 2 else 0
 |59=>if t=29 then 2 else 0
 |61=>if t=16 then 2 else 0
 |63=>if t=15 then 4 else 0
 |66=>if t=19 then 1 else if t=86 then 2 else 0
 |68=>if t=8 then 2 else 0
 |70=>if t=24 then 1 else 0
 |73=>if t=51 then 2 else 0
 |79=>if t=24 then 2 else if t=41 then 2 else if t=51 then 2 else 0
 |89=>if t=7 then 2 else 0
 |90=>if t=10 then 2 else 0
 |92=>if t=49 then 2 else 0
 |105=>if t=72 then 2 else 0
 |_=>0
def NN:Nat:=18446744073709551616
abbrev O2:=Option (AV×Mem)
abbrev FnT:=xou->FHs->List AV->Mem->O2
abbrev FxKlm4:=xou->FHs->Nat->Id->AV->AV->AV->AV->Mem->Nat->Option Mem
abbrev xra:=AV->AV->AV->AV->AV->AV->AV->AV->AV->AV->Mem->Nat->O2
abbrev xw2:=AV->AV->AV->AV->AV->AV->AV->AV->AV->AV->AV->Mem->Nat->O2
abbrev xry:=AV->AV->Mem->Nat->O2
abbrev xpq:=AV->AV->AV->Mem->Nat->O2
abbrev xp4:=AV->AV->AV->AV->Mem->Nat->O2
abbrev xp5:=AV->AV->AV->AV->AV->Mem->Nat->O2
abbrev xpp:=AV->AV->AV->AV->AV->AV->Mem->Nat->O2
abbrev xqj:=AV->AV->AV->AV->AV->AV->AV->Mem->Nat->O2
abbrev xrl:=AV->AV->AV->AV->AV->AV->AV->AV->Mem->Nat->O2
abbrev FxKr9:=AV->AV->AV->AV->AV->AV->AV->AV->AV->Mem->Nat->O2
abbrev FxKtm2:=xou->FHs->Nat->AV->AV->Mem->Nat->Option Mem
abbrev FxKtm4:=xou->FHs->Nat->AV->AV->AV->AV->Mem->Nat->Option Mem
abbrev FxKtm5:=xou->FHs->Nat->AV->AV->AV->AV->AV->Mem->Nat->Option Mem
abbrev xsr:=xou->FHs->Nat->Mem->Nat->O2
abbrev xp6:=xou->FHs->Nat->AV->Mem->Nat->O2
abbrev FxKtr10:=xou->FHs->Nat->AV->AV->AV->AV->AV->AV->AV->AV->AV->AV->Mem->Nat->O2
abbrev xp3:=xou->FHs->Nat->AV->AV->Mem->Nat->O2
abbrev xpi:=xou->FHs->Nat->AV->AV->AV->Mem->Nat->O2
abbrev xqy:=xou->FHs->Nat->AV->AV->AV->AV->Mem->Nat->O2
abbrev xsd:=xou->FHs->Nat->AV->AV->AV->AV->AV->Mem->Nat->O2
abbrev xw1:=xou->FHs->Nat->AV->AV->AV->AV->AV->AV->Mem->Nat->O2
abbrev FxKtr7:=xou->FHs->Nat->AV->AV->AV->AV->AV->AV->AV->Mem->Nat->O2
abbrev FxKtr8:=xou->FHs->Nat->AV->AV->AV->AV->AV->AV->AV->AV->Mem->Nat->O2
abbrev xxc:=xou->FHs->Nat->AV->AV->AV->AV->AV->AV->AV->AV->AV->Mem->Nat->O2
def x2y:FuncId:=3
def x1z:FuncId:=4
def xr:FuncId:=5
def xt:FuncId:=6
def x20:FuncId:=7
def x21:FuncId:=8
def x10:FuncId:=9
def x22:FuncId:=10
def x1g:FuncId:=11
def x1h:FuncId:=12
def x11:FuncId:=13
def x12:FuncId:=14
def x1i:FuncId:=15
def x44:FuncId:=16
def x30:FuncId:=17
def x45:FuncId:=18
def x46:FuncId:=19
def x31:FuncId:=20
def x47:FuncId:=21
def xi:FuncId:=22
def x1j:FuncId:=23
def x13:FuncId:=24
def x14:FuncId:=25
def xw:FuncId:=26
def x8f:FuncId:=27
def xl:FuncId:=28
def xm:FuncId:=29
def x1k:FuncId:=30
def x2g:FuncId:=31
def x23:FuncId:=32
def x1l:FuncId:=33
def x15:FuncId:=34
def x16:FuncId:=35
def x24:FuncId:=36
def x1m:FuncId:=37
def x1n:FuncId:=38
def x32:FuncId:=39
def x25:FuncId:=40
def x33:FuncId:=41
def x34:FuncId:=42
def x48:FuncId:=43
def x1f:FuncId:=44
def x49:FuncId:=45
def x4a:FuncId:=46
def x4b:FuncId:=47
def x1o:FuncId:=48
def xz:FuncId:=49
def x7u:FuncId:=50
def x7v:FuncId:=51
def x7w:FuncId:=52
def x7x:FuncId:=53
def x26:FuncId:=54
def x1p:FuncId:=55
def x7z:FuncId:=56
def x80:FuncId:=57
def x27:FuncId:=58
def xo:FuncId:=59
def x4c:FuncId:=60
def x2x:FuncId:=61
def x41:FuncId:=62
def x4d:FuncId:=63
def x40:FuncId:=64
def x3z:FuncId:=65
def x2v:FuncId:=66
def x4e:FuncId:=67
def x4f:FuncId:=68
def x4g:FuncId:=69
def x35:FuncId:=70
def x4h:FuncId:=71
def x2w:FuncId:=72
def x3y:FuncId:=73
def xu:FuncId:=74
def xk:FuncId:=75
def x4i:FuncId:=76
def xew:FuncId:=77
def x4j:FuncId:=78
def xv:FuncId:=79
def x4k:FuncId:=80
def x28:FuncId:=81
def x4l:FuncId:=82
def x4m:FuncId:=83
def x4n:FuncId:=84
def x4o:FuncId:=85
def x4p:FuncId:=86
def x29:FuncId:=87
def x3w:FuncId:=88
def x4q:FuncId:=89
def x4r:FuncId:=90
def x4s:FuncId:=91
def x4t:FuncId:=92
def x2a:FuncId:=93
def x4u:FuncId:=94
def x4v:FuncId:=95
def x4w:FuncId:=96
def x4x:FuncId:=97
def xle:FuncId:=99
def x4y:FuncId:=100
def x2b:FuncId:=101
def x4z:FuncId:=102
def x1q:FuncId:=103
def x36:FuncId:=104
def x3v:FuncId:=105
def x50:FuncId:=106
def x3x:FuncId:=107
def x51:FuncId:=108
def x52:FuncId:=109
def x53:FuncId:=110
def x54:FuncId:=111
def x55:FuncId:=112
def x1r:FuncId:=113
def xh5:FuncId:=114
def x56:FuncId:=115
def x57:FuncId:=116
def xh:FuncId:=117
def x58:FuncId:=118
def x59:FuncId:=119
def x5a:FuncId:=120
def x1d:FuncId:=121
def x5b:FuncId:=122
def x3t:TypeId:=2
def xpa:TypeId:=3
def xi3:TypeId:=4
def x6:TypeId:=5
def x5:TypeId:=9
def xa:TypeId:=21
def xe:TypeId:=22
def x1e:TypeId:=24
def xi4:TypeId:=26
def x8:TypeId:=30
def x8b:TypeId:=48
def xi5:TypeId:=52
def xi6:TypeId:=56
def xla:TypeId:=58
def x18:TypeId:=63
def xi7:TypeId:=66
def xdu:TypeId:=71
def x1t:TypeId:=72
def xx:TypeId:=78
def xb8:TypeId:=92
def xon:TypeId:=94
def xg:TypeId:=105
def x9r:TypeId:=115
def xi8:TypeId:=119
def xgp:TypeId:=126
def xf:TypeId:=134
def x6q:TypeId:=137
def xoo:TypeId:=142
def xd:TypeId:=148
def xop:TypeId:=151
def x7:TypeId:=152
def xoq:TypeId:=164
def x9:TypeId:=167
def xor:TypeId:=174
def xos:TypeId:=178
def xli:TypeId:=182
def xot:TypeId:=184
noncomputable def xpy:List AV:=(zeroCells Tryz.prog xpa).getD []
noncomputable def xlc:List AV:=(zeroCells Tryz.prog xi3).getD []
noncomputable def x67:List AV:=(zeroCells Tryz.prog x6).getD []
noncomputable def x2d:List AV:=(zeroCells Tryz.prog x5).getD []
noncomputable def xb:List AV:=(zeroCells Tryz.prog x1e).getD []
noncomputable def xdt:List AV:=(zeroCells Tryz.prog xi4).getD []
noncomputable def xj:List AV:=(zeroCells Tryz.prog x8).getD []
noncomputable def x1s:List AV:=(zeroCells Tryz.prog x8b).getD []
noncomputable def x17:List AV:=(zeroCells Tryz.prog xi5).getD []
noncomputable def x9c:List AV:=(zeroCells Tryz.prog xi6).getD []
noncomputable def xc:List AV:=(zeroCells Tryz.prog x18).getD []
noncomputable def xp:List AV:=(zeroCells Tryz.prog xi7).getD []
noncomputable def x8i:List AV:=(zeroCells Tryz.prog x1t).getD []
noncomputable def x9f:List AV:=(zeroCells Tryz.prog xb8).getD []
noncomputable def xlb:List AV:=(zeroCells Tryz.prog xon).getD []
noncomputable def x3m:List AV:=(zeroCells Tryz.prog xi8).getD []
noncomputable def x3n:List AV:=(zeroCells Tryz.prog xgp).getD []
noncomputable def x3s:List AV:=(zeroCells Tryz.prog xoo).getD []
noncomputable def xld:List AV:=(zeroCells Tryz.prog xop).getD []
noncomputable def x71:List AV:=(zeroCells Tryz.prog xoq).getD []
noncomputable def xlf:List AV:=(zeroCells Tryz.prog xor).getD []
noncomputable def xlg:List AV:=(zeroCells Tryz.prog xos).getD []
noncomputable def xlh:List AV:=(zeroCells Tryz.prog xot).getD []
end Go.Ix
