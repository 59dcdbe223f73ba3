import Derived.Test.YtibmppgmjbpdmaaGreatDoorFxDefs
import Derived.Test.YtibmppgmjbpdmaaGreatDoorProg
namespace Go.Ix
open Go.Proofs
def pol:Pol:=λf t=>match f with
 |7=>if t=22 then 1 else 0
 |12=>if t=34 then 2 else if t=36 then 2 else 0
 |21=>if t=28 then 7 else 0
 |30=>if t=1000000 then 1 else 0
 |37=>if t=1000000 then 170011 else 0
 |38=>if t=1000000 then 170010 else 0
 |40=>if t=31 then 7 else 0
 |44=>if t=20 then 2 else if t=30 then 2 else 0
 |45=>if t=11 then 7 else 0
 |49=>if t=23 then 2 else 0
 |57=>if t=11 then 7 else 0
 |62=>if t=41 then 7 else if t=87 then 7 else if t=118 then 7 else 0
 |64=>if t=23 then 7 else if t=64 then 2 else if t=77 then 2 else if t=87 then 6 else 0
 |65=>if t=16 then 2 else 0
 |69=>if t=25 then 7 else 0
 |78=>if t=16 then 2 else 0
 |85=>if t=17 then 2 else 0
 |92=>if t=16 then 2 else 0
 |96=>if t=68 then 8 else if t=98 then 2 else 0
 |97=>if t=49 then 2 else if t=57 then 2 else 0
 |99=>if t=38 then 2 else 0
 |115=>if t=35 then 2 else 0
 |116=>if t=12 then 1 else if t=27 then 2 else 0
 |122=>if t=18 then 2 else 0
 |124=>if t=20 then 2 else 0
 |125=>if t=14 then 2 else 0
 |126=>if t=18 then 2 else 0
 |143=>if t=7 then 2 else 0
 |147=>if t=23 then 2 else if t=28 then 1 else if t=42 then 2 else if t=49 then 2 else 0
 |148=>if t=42 then 2 else 0
 |156=>if t=1000000 then 2 else 0
 |164=>if t=16 then 2 else 0
 |165=>if t=8 then 2 else 0
 |168=>if t=10 then 2 else 0
 |169=>if t=38 then 2 else 0
 |179=>if t=18 then 2 else if t=27 then 2 else if t=43 then 2 else if t=60 then 2 else 0
 |181=>if t=27 then 2 else if t=33 then 2 else if t=39 then 2 else if t=46 then 2 else if t=54 then 2 else if t=72 then 2 else if t=92 then 2 else if t=99 then 2 else if t=121 then 2 else if t=132 then 2 else 0
 |192=>if t=7 then 7 else 0
 |194=>if t=32 then 2 else 0
 |195=>if t=49 then 2 else if t=101 then 2 else if t=169 then 2 else if t=191 then 2 else if t=205 then 2 else if t=219 then 2 else 0
 |197=>if t=26 then 2 else if t=55 then 2 else 0
 |198=>if t=36 then 2 else 0
 |199=>if t=37 then 2 else if t=40 then 2 else if t=43 then 2 else if t=48 then 2 else 0
 |210=>if t=16 then 2 else 0
 |211=>if t=31 then 2 else if t=46 then 2 else if t=57 then 2 else 0
 |215=>if t=14 then 2 else 0
 |216=>if t=16 then 2 else if t=24 then 2 else if t=32 then 2 else 0
 |240=>if t=24 then 7 else if t=62 then 6 else 0
 |243=>if t=13 then 7 else if t=19 then 7 else if t=25 then 7 else if t=56 then 7 else if t=68 then 6 else 0
 |244=>if t=9 then 7 else 0
 |245=>if t=7 then 7 else 0
 |249=>if t=16 then 2 else 0
 |250=>if t=15 then 7 else if t=30 then 8 else 0
 |252=>if t=14 then 7 else if t=20 then 7 else if t=53 then 7 else if t=60 then 6 else 0
 |253=>if t=7 then 7 else 0
 |256=>if t=16 then 2 else 0
 |257=>if t=12 then 7 else if t=39 then 6 else if t=51 then 2 else 0
 |261=>if t=12 then 7 else if t=40 then 8 else if t=42 then 6 else 0
 |262=>if t=10 then 2 else if t=28 then 2 else 0
 |_=>0
def NN:Nat:=18446744073709551616
abbrev O2:=Option (AV×Mem)
abbrev FnT:=x16u->FHs->List AV->Mem->O2
abbrev FxKlm4:=x16u->FHs->Nat->Id->AV->AV->AV->AV->Mem->Nat->Option Mem
abbrev x19b:=AV->AV->AV->AV->AV->AV->AV->AV->AV->AV->Mem->Nat->O2
abbrev x1cs:=AV->AV->AV->AV->AV->AV->AV->AV->AV->AV->AV->Mem->Nat->O2
abbrev x18f:=AV->AV->Mem->Nat->O2
abbrev x17e:=AV->AV->AV->Mem->Nat->O2
abbrev x170:=AV->AV->AV->AV->Mem->Nat->O2
abbrev x173:=AV->AV->AV->AV->AV->Mem->Nat->O2
abbrev x17a:=AV->AV->AV->AV->AV->AV->Mem->Nat->O2
abbrev x17r:=AV->AV->AV->AV->AV->AV->AV->Mem->Nat->O2
abbrev x1bd:=AV->AV->AV->AV->AV->AV->AV->AV->Mem->Nat->O2
abbrev x18y:=AV->AV->AV->AV->AV->AV->AV->AV->AV->Mem->Nat->O2
abbrev FxKtm2:=x16u->FHs->Nat->AV->AV->Mem->Nat->Option Mem
abbrev FxKtm4:=x16u->FHs->Nat->AV->AV->AV->AV->Mem->Nat->Option Mem
abbrev FxKtm6:=x16u->FHs->Nat->AV->AV->AV->AV->AV->AV->Mem->Nat->Option Mem
abbrev x1dk:=x16u->FHs->Nat->AV->AV->AV->AV->AV->AV->AV->Mem->Nat->Option Mem
abbrev FxKtm8:=x16u->FHs->Nat->AV->AV->AV->AV->AV->AV->AV->AV->Mem->Nat->Option Mem
abbrev x183:=x16u->FHs->Nat->Mem->Nat->O2
abbrev x171:=x16u->FHs->Nat->AV->Mem->Nat->O2
abbrev FxKtr10:=x16u->FHs->Nat->AV->AV->AV->AV->AV->AV->AV->AV->AV->AV->Mem->Nat->O2
abbrev x172:=x16u->FHs->Nat->AV->AV->Mem->Nat->O2
abbrev x17c:=x16u->FHs->Nat->AV->AV->AV->Mem->Nat->O2
abbrev x185:=x16u->FHs->Nat->AV->AV->AV->AV->Mem->Nat->O2
abbrev x18o:=x16u->FHs->Nat->AV->AV->AV->AV->AV->Mem->Nat->O2
abbrev x19a:=x16u->FHs->Nat->AV->AV->AV->AV->AV->AV->Mem->Nat->O2
abbrev x1at:=x16u->FHs->Nat->AV->AV->AV->AV->AV->AV->AV->Mem->Nat->O2
abbrev x1cr:=x16u->FHs->Nat->AV->AV->AV->AV->AV->AV->AV->AV->Mem->Nat->O2
abbrev x1dl:=x16u->FHs->Nat->AV->AV->AV->AV->AV->AV->AV->AV->AV->Mem->Nat->O2
def x2y:FuncId:=3
def x1t:FuncId:=5
def x1u:FuncId:=6
def xr:FuncId:=7
def x19:FuncId:=8
def x1v:FuncId:=9
def x1a:FuncId:=10
def x1b:FuncId:=11
def x1w:FuncId:=12
def x1x:FuncId:=13
def x1y:FuncId:=14
def x1z:FuncId:=15
def x4f:FuncId:=18
def x2z:FuncId:=19
def x30:FuncId:=20
def x4g:FuncId:=21
def x4h:FuncId:=22
def x4i:FuncId:=23
def x4j:FuncId:=24
def x1c:FuncId:=25
def x20:FuncId:=26
def xk:FuncId:=27
def xx:FuncId:=28
def xm:FuncId:=29
def xw:FuncId:=30
def xh:FuncId:=31
def x1d:FuncId:=32
def xy:FuncId:=33
def xz:FuncId:=34
def x1e:FuncId:=35
def x21:FuncId:=36
def x40:FuncId:=37
def x3z:FuncId:=38
def x22:FuncId:=39
def x4k:FuncId:=40
def x4l:FuncId:=41
def x31:FuncId:=42
def x32:FuncId:=43
def x33:FuncId:=44
def x4m:FuncId:=45
def x4n:FuncId:=46
def x4o:FuncId:=47
def x4p:FuncId:=48
def xt:FuncId:=49
def x23:FuncId:=50
def x24:FuncId:=51
def x25:FuncId:=52
def xab:FuncId:=53
def x1f:FuncId:=54
def x26:FuncId:=56
def x4q:FuncId:=57
def x34:FuncId:=58
def x35:FuncId:=59
def x36:FuncId:=60
def x4r:FuncId:=61
def x4s:FuncId:=62
def x4t:FuncId:=63
def x4u:FuncId:=64
def x4v:FuncId:=65
def x4w:FuncId:=66
def x4x:FuncId:=67
def x4y:FuncId:=68
def x4z:FuncId:=69
def xi:FuncId:=70
def x50:FuncId:=71
def x10:FuncId:=72
def x27:FuncId:=73
def x11:FuncId:=74
def x52:FuncId:=75
def x12:FuncId:=76
def x53:FuncId:=78
def x54:FuncId:=79
def x55:FuncId:=80
def x56:FuncId:=81
def x37:FuncId:=82
def x13:FuncId:=83
def x28:FuncId:=84
def x1g:FuncId:=85
def x57:FuncId:=86
def x38:FuncId:=87
def x1h:FuncId:=88
def x29:FuncId:=89
def x58:FuncId:=90
def x59:FuncId:=91
def x5a:FuncId:=92
def x5b:FuncId:=93
def x39:FuncId:=94
def x2a:FuncId:=95
def x5c:FuncId:=96
def x3a:FuncId:=97
def x5d:FuncId:=98
def x5e:FuncId:=99
def x5f:FuncId:=100
def x5g:FuncId:=101
def x2b:FuncId:=102
def x14:FuncId:=103
def x17:FuncId:=104
def xm4:FuncId:=105
def x5h:FuncId:=106
def x5i:FuncId:=107
def x5j:FuncId:=108
def x5k:FuncId:=109
def x5l:FuncId:=110
def x5m:FuncId:=111
def x5n:FuncId:=112
def xu:FuncId:=113
def x5o:FuncId:=114
def x3b:FuncId:=115
def x5p:FuncId:=116
def x3c:FuncId:=117
def x2c:FuncId:=118
def x3d:FuncId:=119
def xj:FuncId:=120
def x5q:FuncId:=121
def x5r:FuncId:=122
def x1i:FuncId:=123
def x5s:FuncId:=124
def x5t:FuncId:=125
def x5u:FuncId:=126
def x5v:FuncId:=127
def x5w:FuncId:=128
def x3e:FuncId:=129
def x5x:FuncId:=130
def x5y:FuncId:=131
def x5z:FuncId:=132
def x60:FuncId:=133
def x61:FuncId:=134
def x62:FuncId:=135
def x63:FuncId:=136
def x64:FuncId:=137
def x3f:FuncId:=138
def x65:FuncId:=139
def x66:FuncId:=140
def x67:FuncId:=141
def x68:FuncId:=142
def x3g:FuncId:=143
def x69:FuncId:=144
def x3h:FuncId:=145
def x6a:FuncId:=146
def x6b:FuncId:=147
def x6c:FuncId:=148
def x6d:FuncId:=149
def x3i:FuncId:=150
def x3j:FuncId:=151
def x6e:FuncId:=152
def xv:FuncId:=153
def x1j:FuncId:=154
def x6f:FuncId:=155
def xfd:FuncId:=156
def x6g:FuncId:=157
def x3k:FuncId:=158
def x6h:FuncId:=159
def x6i:FuncId:=160
def x6j:FuncId:=161
def x6k:FuncId:=162
def x6l:FuncId:=163
def x4d:FuncId:=164
def x6m:FuncId:=165
def x6n:FuncId:=166
def x3l:FuncId:=167
def x6o:FuncId:=168
def x6p:FuncId:=169
def x6q:FuncId:=170
def x6r:FuncId:=171
def x6s:FuncId:=172
def xah:FuncId:=173
def xai:FuncId:=174
def x6t:FuncId:=175
def x6u:FuncId:=176
def x6v:FuncId:=177
def x6w:FuncId:=178
def x6x:FuncId:=179
def x3m:FuncId:=180
def x2d:FuncId:=181
def x3n:FuncId:=182
def x6y:FuncId:=183
def x6z:FuncId:=184
def x70:FuncId:=185
def x71:FuncId:=186
def x72:FuncId:=187
def x3o:FuncId:=188
def x73:FuncId:=189
def x108:FuncId:=190
def x74:FuncId:=191
def x75:FuncId:=192
def x76:FuncId:=193
def x3p:FuncId:=194
def x1k:FuncId:=195
def x77:FuncId:=196
def x78:FuncId:=197
def x79:FuncId:=198
def x7a:FuncId:=199
def x7b:FuncId:=200
def x7c:FuncId:=201
def xc:FuncId:=202
def x7d:FuncId:=203
def x7e:FuncId:=204
def x7f:FuncId:=205
def x7g:FuncId:=206
def x1l:FuncId:=207
def x3q:FuncId:=208
def x7h:FuncId:=209
def x7i:FuncId:=210
def x7j:FuncId:=211
def x3r:FuncId:=212
def x7k:FuncId:=213
def x7l:FuncId:=214
def x2e:FuncId:=215
def x3s:FuncId:=216
def x3t:FuncId:=217
def xf:FuncId:=218
def x7m:FuncId:=219
def x2f:FuncId:=220
def x2g:FuncId:=221
def x49:TypeId:=2
def x17o:TypeId:=3
def x92:TypeId:=4
def x1:TypeId:=5
def x0:TypeId:=9
def x4:TypeId:=21
def x5:TypeId:=22
def x165:TypeId:=25
def x9:TypeId:=41
def x7o:TypeId:=44
def xcj:TypeId:=47
def x95:TypeId:=48
def x94:TypeId:=49
def xtz:TypeId:=51
def x7:TypeId:=54
def xkd:TypeId:=56
def xd:TypeId:=60
def x8u:TypeId:=62
def xlx:TypeId:=63
def xu0:TypeId:=65
def xa:TypeId:=67
def xe:TypeId:=85
def x1r:TypeId:=87
def xq:TypeId:=92
def xzy:TypeId:=93
def x166:TypeId:=96
def xu1:TypeId:=98
def xke:TypeId:=100
def xu2:TypeId:=105
def x167:TypeId:=109
def x4c:TypeId:=110
def x168:TypeId:=112
def x169:TypeId:=114
def x16a:TypeId:=116
def x16b:TypeId:=121
def xu3:TypeId:=125
def x16c:TypeId:=130
def x16d:TypeId:=132
def x2w:TypeId:=155
def x16e:TypeId:=157
def xu4:TypeId:=159
def xu5:TypeId:=174
def x6:TypeId:=182
def x16f:TypeId:=183
def x3:TypeId:=184
def x16g:TypeId:=190
def x16h:TypeId:=192
def x16i:TypeId:=195
def x106:TypeId:=197
def xmw:TypeId:=199
def xnb:TypeId:=200
def xqd:TypeId:=202
def xkf:TypeId:=203
def x4a:TypeId:=205
def x16j:TypeId:=208
def x16k:TypeId:=214
def xok:TypeId:=216
def x16l:TypeId:=218
def xop:TypeId:=220
def xos:TypeId:=222
def xou:TypeId:=224
def x104:TypeId:=225
def x105:TypeId:=226
def x1q:TypeId:=227
def x2:TypeId:=235
def x16m:TypeId:=240
def x16n:TypeId:=244
def x16o:TypeId:=246
def x16p:TypeId:=250
def x103:TypeId:=255
def xq6:TypeId:=272
def xb:TypeId:=275
def x9e:TypeId:=278
def x16q:TypeId:=298
def x18:TypeId:=301
def x10c:TypeId:=307
def x16r:TypeId:=309
def x16s:TypeId:=312
noncomputable def x18x:List AV:=(zeroCells Tryz.prog x17o).getD []
noncomputable def xl9:List AV:=(zeroCells Tryz.prog x92).getD []
noncomputable def x8r:List AV:=(zeroCells Tryz.prog x1).getD []
noncomputable def xg:List AV:=(zeroCells Tryz.prog x0).getD []
noncomputable def xkj:List AV:=(zeroCells Tryz.prog x5).getD []
noncomputable def x93:List AV:=(zeroCells Tryz.prog x165).getD []
noncomputable def x1m:List AV:=(zeroCells Tryz.prog x7o).getD []
noncomputable def xkk:List AV:=(zeroCells Tryz.prog xtz).getD []
noncomputable def x2h:List AV:=(zeroCells Tryz.prog xkd).getD []
noncomputable def x8:List AV:=(zeroCells Tryz.prog xd).getD []
noncomputable def xkl:List AV:=(zeroCells Tryz.prog xu0).getD []
noncomputable def xob:List AV:=(zeroCells Tryz.prog xa).getD []
noncomputable def xlp:List AV:=(zeroCells Tryz.prog x166).getD []
noncomputable def xn:List AV:=(zeroCells Tryz.prog xu1).getD []
noncomputable def xo:List AV:=(zeroCells Tryz.prog xke).getD []
noncomputable def xkp:List AV:=(zeroCells Tryz.prog xu2).getD []
noncomputable def xp:List AV:=(zeroCells Tryz.prog x167).getD []
noncomputable def xb2:List AV:=(zeroCells Tryz.prog x168).getD []
noncomputable def x41:List AV:=(zeroCells Tryz.prog x169).getD []
noncomputable def x42:List AV:=(zeroCells Tryz.prog x16a).getD []
noncomputable def xzv:List AV:=(zeroCells Tryz.prog x16b).getD []
noncomputable def xb6:List AV:=(zeroCells Tryz.prog xu3).getD []
noncomputable def x43:List AV:=(zeroCells Tryz.prog x16c).getD []
noncomputable def x85:List AV:=(zeroCells Tryz.prog x16d).getD []
noncomputable def xzz:List AV:=(zeroCells Tryz.prog x16e).getD []
noncomputable def x90:List AV:=(zeroCells Tryz.prog xu4).getD []
noncomputable def xl:List AV:=(zeroCells Tryz.prog xu5).getD []
noncomputable def xzw:List AV:=(zeroCells Tryz.prog x16f).getD []
noncomputable def xzx:List AV:=(zeroCells Tryz.prog x16g).getD []
noncomputable def x1p:List AV:=(zeroCells Tryz.prog x16h).getD []
noncomputable def xms:List AV:=(zeroCells Tryz.prog x16i).getD []
noncomputable def x107:List AV:=(zeroCells Tryz.prog xqd).getD []
noncomputable def x2x:List AV:=(zeroCells Tryz.prog xkf).getD []
noncomputable def x4b:List AV:=(zeroCells Tryz.prog x16j).getD []
noncomputable def x9b:List AV:=(zeroCells Tryz.prog x16k).getD []
noncomputable def xoj:List AV:=(zeroCells Tryz.prog xok).getD []
noncomputable def x9c:List AV:=(zeroCells Tryz.prog x16l).getD []
noncomputable def xoo:List AV:=(zeroCells Tryz.prog xop).getD []
noncomputable def xoq:List AV:=(zeroCells Tryz.prog xos).getD []
noncomputable def xot:List AV:=(zeroCells Tryz.prog xou).getD []
noncomputable def x100:List AV:=(zeroCells Tryz.prog x16m).getD []
noncomputable def x101:List AV:=(zeroCells Tryz.prog x16n).getD []
noncomputable def x102:List AV:=(zeroCells Tryz.prog x16o).getD []
noncomputable def xg8:List AV:=(zeroCells Tryz.prog x16p).getD []
noncomputable def x9g:List AV:=(zeroCells Tryz.prog x16q).getD []
noncomputable def x10a:List AV:=(zeroCells Tryz.prog x18).getD []
noncomputable def x10b:List AV:=(zeroCells Tryz.prog x16r).getD []
noncomputable def x10d:List AV:=(zeroCells Tryz.prog x16s).getD []
end Go.Ix
