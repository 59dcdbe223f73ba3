import Derived.Test.YtbcmiinhjgbkdaaGreatDoorFxDefs
import Derived.Test.YtbcmiinhjgbkdaaGreatDoorProg
namespace Go.Ix
open Go.Proofs
def pol:Pol:=λf t=>match f with
 |8=>if t=33 then 2 else if t=49 then 2 else if t=51 then 2 else 0
 |10=>if t=16 then 1 else if t=29 then 2 else 0
 |13=>if t=41 then 9 else 0
 |24=>if t=22 then 2 else 0
 |25=>if t=1000000 then 1 else 0
 |26=>if t=1000000 then 136011 else 0
 |27=>if t=61 then 2 else if t=70 then 2 else if t=72 then 2 else if t=74 then 2 else if t=1000000 then 5 else 0
 |28=>if t=1000000 then 136010 else 0
 |33=>if t=39 then 2 else if t=61 then 2 else 0
 |39=>if t=23 then 2 else if t=28 then 1 else if t=42 then 2 else if t=49 then 2 else 0
 |42=>if t=18 then 1 else if t=32 then 3 else 0
 |45=>if t=35 then 2 else 0
 |46=>if t=12 then 1 else if t=27 then 2 else 0
 |56=>if t=23 then 2 else 0
 |63=>if t=8 then 2 else 0
 |68=>if t=10 then 2 else 0
 |71=>if t=12 then 1 else if t=17 then 2 else if t=22 then 2 else 0
 |73=>if t=7 then 2 else 0
 |76=>if t=42 then 2 else 0
 |78=>if t=7 then 1 else if t=17 then 4 else if t=25 then 2 else 0
 |79=>if t=16 then 2 else 0
 |86=>if t=1000000 then 2 else 0
 |88=>if t=18 then 2 else if t=27 then 2 else if t=43 then 2 else if t=60 then 2 else 0
 |90=>if t=27 then 2 else if t=33 then 2 else if t=39 then 2 else if t=46 then 2 else if t=54 then 2 else if t=72 then 2 else if t=92 then 2 else if t=99 then 2 else if t=121 then 2 else if t=132 then 2 else 0
 |95=>if t=16 then 2 else 0
 |97=>if t=15 then 4 else 0
 |98=>if t=52 then 2 else 0
 |101=>if t=38 then 2 else 0
 |103=>if t=9 then 4 else 0
 |104=>if t=12 then 1 else if t=40 then 2 else 0
 |105=>if t=51 then 2 else 0
 |118=>if t=32 then 2 else 0
 |119=>if t=49 then 2 else if t=101 then 2 else if t=169 then 2 else if t=191 then 2 else if t=205 then 2 else if t=219 then 2 else 0
 |121=>if t=26 then 2 else if t=55 then 2 else 0
 |122=>if t=36 then 2 else 0
 |123=>if t=37 then 2 else if t=40 then 2 else if t=43 then 2 else if t=48 then 2 else 0
 |133=>if t=19 then 1 else if t=86 then 2 else 0
 |134=>if t=18 then 2 else 0
 |151=>if t=31 then 2 else if t=46 then 2 else if t=57 then 2 else 0
 |155=>if t=14 then 2 else 0
 |156=>if t=16 then 2 else if t=24 then 2 else if t=32 then 2 else 0
 |171=>if t=72 then 2 else 0
 |_=>0
def NN:Nat:=18446744073709551616
abbrev O2:=Option (AV×Mem)
abbrev FnT:=x10m->FHs->List AV->Mem->O2
abbrev FxKlm6:=x10m->FHs->Nat->Id->AV->AV->AV->AV->AV->AV->Mem->Nat->Option Mem
abbrev x13s:=AV->AV->AV->AV->AV->AV->AV->AV->AV->AV->Mem->Nat->O2
abbrev x182:=AV->AV->AV->AV->AV->AV->AV->AV->AV->AV->AV->Mem->Nat->O2
abbrev x11j:=AV->AV->Mem->Nat->O2
abbrev x11f:=AV->AV->AV->Mem->Nat->O2
abbrev x10v:=AV->AV->AV->AV->Mem->Nat->O2
abbrev x10t:=AV->AV->AV->AV->AV->Mem->Nat->O2
abbrev x10z:=AV->AV->AV->AV->AV->AV->Mem->Nat->O2
abbrev x11n:=AV->AV->AV->AV->AV->AV->AV->Mem->Nat->O2
abbrev x13b:=AV->AV->AV->AV->AV->AV->AV->AV->Mem->Nat->O2
abbrev x154:=AV->AV->AV->AV->AV->AV->AV->AV->AV->Mem->Nat->O2
abbrev FxKtm4:=x10m->FHs->Nat->AV->AV->AV->AV->Mem->Nat->Option Mem
abbrev FxKtm7:=x10m->FHs->Nat->AV->AV->AV->AV->AV->AV->AV->Mem->Nat->Option Mem
abbrev x12e:=x10m->FHs->Nat->Mem->Nat->O2
abbrev x10y:=x10m->FHs->Nat->AV->Mem->Nat->O2
abbrev FxKtr10:=x10m->FHs->Nat->AV->AV->AV->AV->AV->AV->AV->AV->AV->AV->Mem->Nat->O2
abbrev x10x:=x10m->FHs->Nat->AV->AV->Mem->Nat->O2
abbrev x115:=x10m->FHs->Nat->AV->AV->AV->Mem->Nat->O2
abbrev x11q:=x10m->FHs->Nat->AV->AV->AV->AV->Mem->Nat->O2
abbrev x12i:=x10m->FHs->Nat->AV->AV->AV->AV->AV->Mem->Nat->O2
abbrev x13r:=x10m->FHs->Nat->AV->AV->AV->AV->AV->AV->Mem->Nat->O2
abbrev x16g:=x10m->FHs->Nat->AV->AV->AV->AV->AV->AV->AV->Mem->Nat->O2
abbrev x181:=x10m->FHs->Nat->AV->AV->AV->AV->AV->AV->AV->AV->Mem->Nat->O2
abbrev x183:=x10m->FHs->Nat->AV->AV->AV->AV->AV->AV->AV->AV->AV->Mem->Nat->O2
def x3b:FuncId:=3
def x1z:FuncId:=4
def x20:FuncId:=5
def x12:FuncId:=6
def xp:FuncId:=7
def x1g:FuncId:=8
def x13:FuncId:=9
def x14:FuncId:=10
def x21:FuncId:=11
def x1h:FuncId:=12
def x1i:FuncId:=13
def x4j:FuncId:=14
def x3c:FuncId:=15
def x4k:FuncId:=16
def x22:FuncId:=17
def x4l:FuncId:=18
def x4m:FuncId:=19
def x1j:FuncId:=20
def x1k:FuncId:=21
def xm:FuncId:=22
def xq:FuncId:=23
def xr:FuncId:=24
def x1a:FuncId:=25
def x42:FuncId:=26
def xb9:FuncId:=27
def x3y:FuncId:=28
def x1l:FuncId:=29
def xv:FuncId:=30
def x1m:FuncId:=31
def x23:FuncId:=32
def x24:FuncId:=33
def xw:FuncId:=34
def x25:FuncId:=35
def xt:FuncId:=36
def x15:FuncId:=37
def x1n:FuncId:=38
def x3d:FuncId:=39
def x4n:FuncId:=40
def x3e:FuncId:=41
def x4o:FuncId:=42
def x3f:FuncId:=43
def x3g:FuncId:=44
def x3h:FuncId:=45
def x4p:FuncId:=46
def x4q:FuncId:=47
def x26:FuncId:=48
def x27:FuncId:=49
def xi:FuncId:=50
def x16:FuncId:=51
def x9l:FuncId:=52
def xve:FuncId:=53
def x9m:FuncId:=54
def x28:FuncId:=55
def xx:FuncId:=56
def x29:FuncId:=57
def x2a:FuncId:=58
def x2b:FuncId:=59
def xn:FuncId:=60
def x2c:FuncId:=61
def xu:FuncId:=62
def x4r:FuncId:=63
def x4s:FuncId:=64
def x2d:FuncId:=65
def x3i:FuncId:=66
def x3j:FuncId:=67
def x4t:FuncId:=68
def x4u:FuncId:=69
def x3k:FuncId:=70
def x3l:FuncId:=71
def x4v:FuncId:=72
def x2e:FuncId:=73
def x4w:FuncId:=74
def x4x:FuncId:=75
def x4y:FuncId:=76
def x4z:FuncId:=77
def x50:FuncId:=78
def x2f:FuncId:=79
def x51:FuncId:=80
def x52:FuncId:=82
def x17:FuncId:=83
def x2g:FuncId:=84
def x2h:FuncId:=85
def x35:FuncId:=86
def x2i:FuncId:=87
def x53:FuncId:=88
def x3m:FuncId:=89
def x2j:FuncId:=90
def x3n:FuncId:=91
def x54:FuncId:=92
def x55:FuncId:=93
def x56:FuncId:=94
def x3a:FuncId:=95
def x4i:FuncId:=96
def x57:FuncId:=97
def x58:FuncId:=98
def x4h:FuncId:=99
def x4g:FuncId:=100
def x59:FuncId:=101
def x5a:FuncId:=102
def x5b:FuncId:=103
def x3o:FuncId:=104
def x4f:FuncId:=105
def x5c:FuncId:=106
def x5d:FuncId:=107
def x5e:FuncId:=108
def x5f:FuncId:=109
def xvh:FuncId:=110
def x1d:FuncId:=111
def x5g:FuncId:=112
def x2k:FuncId:=113
def x1o:FuncId:=114
def xa2:FuncId:=115
def xa3:FuncId:=116
def x2l:FuncId:=117
def x3p:FuncId:=118
def x1p:FuncId:=119
def x5h:FuncId:=120
def x5i:FuncId:=121
def x5j:FuncId:=122
def x5k:FuncId:=123
def x5l:FuncId:=124
def x5m:FuncId:=125
def xg:FuncId:=126
def x5n:FuncId:=127
def x5o:FuncId:=128
def x5p:FuncId:=129
def x3q:FuncId:=130
def x11:FuncId:=131
def x5q:FuncId:=132
def x39:FuncId:=133
def x4d:FuncId:=134
def x3r:FuncId:=135
def x4b:FuncId:=136
def x5r:FuncId:=137
def x5s:FuncId:=138
def x5t:FuncId:=139
def x5u:FuncId:=140
def x3s:FuncId:=141
def x5v:FuncId:=142
def x1e:FuncId:=143
def x2m:FuncId:=144
def x5w:FuncId:=145
def x5x:FuncId:=146
def x5y:FuncId:=147
def x5z:FuncId:=148
def x60:FuncId:=149
def x2n:FuncId:=150
def x61:FuncId:=151
def x3t:FuncId:=152
def x62:FuncId:=153
def x63:FuncId:=154
def x2o:FuncId:=155
def x3u:FuncId:=156
def x3v:FuncId:=157
def x4c:FuncId:=158
def x64:FuncId:=159
def x65:FuncId:=160
def x66:FuncId:=161
def x67:FuncId:=162
def xpi:FuncId:=163
def x68:FuncId:=164
def x69:FuncId:=165
def x6a:FuncId:=166
def x1q:FuncId:=167
def x3w:FuncId:=168
def x2p:FuncId:=169
def x2q:FuncId:=170
def x4a:FuncId:=171
def x6b:FuncId:=172
def x4e:FuncId:=173
def x6c:FuncId:=174
def xj:FuncId:=175
def x6d:FuncId:=176
def x47:TypeId:=2
def x111:TypeId:=3
def x8t:TypeId:=4
def x1:TypeId:=5
def x0:TypeId:=9
def x6:TypeId:=21
def x7:TypeId:=22
def x8:TypeId:=23
def xo:TypeId:=25
def xqn:TypeId:=28
def x4:TypeId:=43
def xqo:TypeId:=50
def xk:TypeId:=58
def xaa:TypeId:=60
def xa:TypeId:=62
def xe:TypeId:=66
def xb:TypeId:=68
def xh:TypeId:=69
def x10:TypeId:=72
def x109:TypeId:=92
def x19:TypeId:=95
def xqp:TypeId:=97
def x10a:TypeId:=102
def xvf:TypeId:=105
def x10b:TypeId:=112
def xqq:TypeId:=117
def xqr:TypeId:=126
def x10c:TypeId:=131
def x10d:TypeId:=133
def x10e:TypeId:=136
def x10f:TypeId:=140
def x81:TypeId:=147
def x5:TypeId:=152
def xcw:TypeId:=156
def xlt:TypeId:=159
def x10g:TypeId:=164
def x2:TypeId:=165
def x3:TypeId:=184
def xqs:TypeId:=187
def x10h:TypeId:=190
def x10i:TypeId:=194
def xf:TypeId:=198
def x8i:TypeId:=201
def x1f:TypeId:=204
def x10j:TypeId:=217
def x10k:TypeId:=230
def xvp:TypeId:=234
def x10l:TypeId:=236
noncomputable def x11m:List AV:=(zeroCells Tryz.prog x111).getD []
noncomputable def xjn:List AV:=(zeroCells Tryz.prog x8t).getD []
noncomputable def x7f:List AV:=(zeroCells Tryz.prog x1).getD []
noncomputable def xl:List AV:=(zeroCells Tryz.prog x0).getD []
noncomputable def xc:List AV:=(zeroCells Tryz.prog xo).getD []
noncomputable def xil:List AV:=(zeroCells Tryz.prog xqn).getD []
noncomputable def x1u:List AV:=(zeroCells Tryz.prog x4).getD []
noncomputable def xiq:List AV:=(zeroCells Tryz.prog xqo).getD []
noncomputable def x9:List AV:=(zeroCells Tryz.prog xk).getD []
noncomputable def xd:List AV:=(zeroCells Tryz.prog xa).getD []
noncomputable def x41:List AV:=(zeroCells Tryz.prog x109).getD []
noncomputable def xz:List AV:=(zeroCells Tryz.prog xqp).getD []
noncomputable def xy:List AV:=(zeroCells Tryz.prog x10a).getD []
noncomputable def xvd:List AV:=(zeroCells Tryz.prog x10b).getD []
noncomputable def x30:List AV:=(zeroCells Tryz.prog xqq).getD []
noncomputable def x7n:List AV:=(zeroCells Tryz.prog xqr).getD []
noncomputable def xkl:List AV:=(zeroCells Tryz.prog x10c).getD []
noncomputable def xvi:List AV:=(zeroCells Tryz.prog x10d).getD []
noncomputable def xvc:List AV:=(zeroCells Tryz.prog x10e).getD []
noncomputable def xd5:List AV:=(zeroCells Tryz.prog x10f).getD []
noncomputable def xvj:List AV:=(zeroCells Tryz.prog xlt).getD []
noncomputable def xvg:List AV:=(zeroCells Tryz.prog x10g).getD []
noncomputable def x48:List AV:=(zeroCells Tryz.prog xqs).getD []
noncomputable def x49:List AV:=(zeroCells Tryz.prog x10h).getD []
noncomputable def xvk:List AV:=(zeroCells Tryz.prog x10i).getD []
noncomputable def xvl:List AV:=(zeroCells Tryz.prog x1f).getD []
noncomputable def x8o:List AV:=(zeroCells Tryz.prog x10j).getD []
noncomputable def xvn:List AV:=(zeroCells Tryz.prog x10k).getD []
noncomputable def xvo:List AV:=(zeroCells Tryz.prog x10l).getD []
end Go.Ix
