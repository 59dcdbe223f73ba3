import Derived.Test.YtibmppgmjbpdmaaGreatDoorFxDefs
import Derived.Test.YtibmppgmjbpdmaaGreatDoorProg
namespace Go.Ix
open Go.Proofs
def pol:Pol:=λf t=>match f with
 |7=>if t=22 then 1 else 0
 |12=>if t=34 then 2 else if t=36 then 2 else 0
 |21=>if t=28 then 7 else 0
 |30=>if t=1000000 then 1 else 0
 |37=>if t=1000000 then 170011 else 0
 |38=>if t=1000000 then 170010 else 0
 |40=>if t=31 then 7 else 0
 |44=>if t=20 then 2 else if t=30 then 2 else 0
 |45=>if t=11 then 7 else 0
 |49=>if t=23 then 2 else 0
 |57=>if t=11 then 7 else 0
 |62=>if t=41 then 7 else if t=87 then 7 else if t=118 then 7 else 0
 |64=>if t=23 then 7 else if t=64 then 2 else if t=77 then 2 else if t=87 then 6 else 0
 |65=>if t=16 then 2 else 0
 |69=>if t=25 then 7 else 0
 |78=>if t=16 then 2 else 0
 |85=>if t=17 then 2 else 0
 |92=>if t=16 then 2 else 0
 |96=>if t=68 then 8 else if t=98 then 2 else 0
 |97=>if t=49 then 2 else if t=57 then 2 else 0
 |99=>if t=38 then 2 else 0
 |115=>if t=35 then 2 else 0
 |116=>if t=12 then 1 else if t=27 then 2 else 0
 |122=>if t=18 then 2 else 0
 |124=>if t=20 then 2 else 0
 |125=>if t=14 then 2 else 0
 |126=>if t=18 then 2 else 0
 |143=>if t=7 then 2 else 0
 |147=>if t=23 then 2 else if t=28 then 1 else if t=42 then 2 else if t=49 then 2 else 0
 |148=>if t=42 then 2 else 0
 |156=>if t=1000000 then 2 else 0
 |164=>if t=16 then 2 else 0
 |165=>if t=8 then 2 else 0
 |168=>if t=10 then 2 else 0
 |169=>if t=38 then 2 else 0
 |179=>if t=18 then 2 else if t=27 then 2 else if t=43 then 2 else if t=60 then 2 else 0
 |181=>if t=27 then 2 else if t=33 then 2 else if t=39 then 2 else if t=46 then 2 else if t=54 then 2 else if t=72 then 2 else if t=92 then 2 else if t=99 then 2 else if t=121 then 2 else if t=132 then 2 else 0
 |192=>if t=7 then 7 else 0
 |194=>if t=32 then 2 else 0
 |195=>if t=49 then 2 else if t=101 then 2 else if t=169 then 2 else if t=191 then 2 else if t=205 then 2 else if t=219 then 2 else 0
 |197=>if t=26 then 2 else if t=55 then 2 else 0
 |198=>if t=36 then 2 else 0
 |199=>if t=37 then 2 else if t=40 then 2 else if t=43 then 2 else if t=48 then 2 else 0
 |210=>if t=16 then 2 else 0
 |211=>if t=31 then 2 else if t=46 then 2 else if t=57 then 2 else 0
 |215=>if t=14 then 2 else 0
 |216=>if t=16 then 2 else if t=24 then 2 else if t=32 then 2 else 0
 |240=>if t=24 then 7 else if t=62 then 6 else 0
 |243=>if t=13 then 7 else if t=19 then 7 else if t=25 then 7 else if t=56 then 7 else if t=68 then 6 else 0
 |244=>if t=9 then 7 else 0
 |245=>if t=7 then 7 else 0
 |249=>if t=16 then 2 else 0
 |250=>if t=15 then 7 else if t=30 then 8 else 0
 |252=>if t=14 then 7 else if t=20 then 7 else if t=53 then 7 else if t=60 then 6 else 0
 |253=>if t=7 then 7 else 0
 |256=>if t=16 then 2 else 0
 |257=>if t=12 then 7 else if t=39 then 6 else if t=51 then 2 else 0
 |261=>if t=12 then 7 else if t=40 then 8 else if t=42 then 6 else 0
 |262=>if t=10 then 2 else if t=28 then 2 else 0
 |_=>0
def NN:Nat:=18446744073709551616
abbrev O2:=Option (AV×Mem)
abbrev FnT:=x14p->FHs->List AV->Mem->O2
abbrev FxKlm4:=x14p->FHs->Nat->Id->AV->AV->AV->AV->Mem->Nat->Option Mem
abbrev x175:=AV->AV->AV->AV->AV->AV->AV->AV->AV->AV->Mem->Nat->O2
abbrev x1ah:=AV->AV->AV->AV->AV->AV->AV->AV->AV->AV->AV->Mem->Nat->O2
abbrev x16o:=AV->AV->Mem->Nat->O2
abbrev x15d:=AV->AV->AV->Mem->Nat->O2
abbrev x14t:=AV->AV->AV->AV->Mem->Nat->O2
abbrev x14x:=AV->AV->AV->AV->AV->Mem->Nat->O2
abbrev x154:=AV->AV->AV->AV->AV->AV->Mem->Nat->O2
abbrev x15i:=AV->AV->AV->AV->AV->AV->AV->Mem->Nat->O2
abbrev x19a:=AV->AV->AV->AV->AV->AV->AV->AV->Mem->Nat->O2
abbrev x165:=AV->AV->AV->AV->AV->AV->AV->AV->AV->Mem->Nat->O2
abbrev FxKtm2:=x14p->FHs->Nat->AV->AV->Mem->Nat->Option Mem
abbrev FxKtm4:=x14p->FHs->Nat->AV->AV->AV->AV->Mem->Nat->Option Mem
abbrev FxKtm6:=x14p->FHs->Nat->AV->AV->AV->AV->AV->AV->Mem->Nat->Option Mem
abbrev x1b5:=x14p->FHs->Nat->AV->AV->AV->AV->AV->AV->AV->Mem->Nat->Option Mem
abbrev FxKtm8:=x14p->FHs->Nat->AV->AV->AV->AV->AV->AV->AV->AV->Mem->Nat->Option Mem
abbrev x15v:=x14p->FHs->Nat->Mem->Nat->O2
abbrev x14v:=x14p->FHs->Nat->AV->Mem->Nat->O2
abbrev FxKtr10:=x14p->FHs->Nat->AV->AV->AV->AV->AV->AV->AV->AV->AV->AV->Mem->Nat->O2
abbrev x14u:=x14p->FHs->Nat->AV->AV->Mem->Nat->O2
abbrev x156:=x14p->FHs->Nat->AV->AV->AV->Mem->Nat->O2
abbrev x15x:=x14p->FHs->Nat->AV->AV->AV->AV->Mem->Nat->O2
abbrev x16g:=x14p->FHs->Nat->AV->AV->AV->AV->AV->Mem->Nat->O2
abbrev x174:=x14p->FHs->Nat->AV->AV->AV->AV->AV->AV->Mem->Nat->O2
abbrev x18l:=x14p->FHs->Nat->AV->AV->AV->AV->AV->AV->AV->Mem->Nat->O2
abbrev x199:=x14p->FHs->Nat->AV->AV->AV->AV->AV->AV->AV->AV->Mem->Nat->O2
abbrev x1b6:=x14p->FHs->Nat->AV->AV->AV->AV->AV->AV->AV->AV->AV->Mem->Nat->O2
def x2e:FuncId:=4
def x1l:FuncId:=5
def x1m:FuncId:=6
def xp:FuncId:=7
def xw:FuncId:=9
def x3r:FuncId:=10
def x1n:FuncId:=11
def x1o:FuncId:=12
def x1p:FuncId:=16
def x15:FuncId:=17
def x3s:FuncId:=18
def x2f:FuncId:=19
def x2g:FuncId:=20
def x3t:FuncId:=21
def x3u:FuncId:=22
def x3v:FuncId:=23
def x3w:FuncId:=24
def x16:FuncId:=25
def x1q:FuncId:=26
def xi:FuncId:=27
def xx:FuncId:=28
def xk:FuncId:=29
def xv:FuncId:=30
def x17:FuncId:=35
def x3x:FuncId:=36
def x3f:FuncId:=37
def x3e:FuncId:=38
def x3y:FuncId:=40
def x3z:FuncId:=41
def x2h:FuncId:=42
def x2i:FuncId:=43
def x2j:FuncId:=44
def x40:FuncId:=45
def x41:FuncId:=46
def x42:FuncId:=47
def x43:FuncId:=48
def xq:FuncId:=49
def x1r:FuncId:=50
def x1s:FuncId:=51
def x1t:FuncId:=52
def x8x:FuncId:=53
def x18:FuncId:=54
def x44:FuncId:=57
def x2k:FuncId:=58
def x2l:FuncId:=59
def x2m:FuncId:=60
def x45:FuncId:=61
def x46:FuncId:=62
def x47:FuncId:=63
def x48:FuncId:=64
def x49:FuncId:=65
def x4a:FuncId:=66
def x4b:FuncId:=67
def x4c:FuncId:=68
def x4d:FuncId:=69
def xg:FuncId:=70
def x4e:FuncId:=71
def xy:FuncId:=72
def x1u:FuncId:=73
def xz:FuncId:=74
def x4g:FuncId:=75
def x10:FuncId:=76
def x4h:FuncId:=78
def x4i:FuncId:=79
def x4j:FuncId:=80
def x4k:FuncId:=81
def x2n:FuncId:=82
def x11:FuncId:=83
def x1v:FuncId:=84
def x19:FuncId:=85
def x4l:FuncId:=86
def x2o:FuncId:=87
def x1a:FuncId:=88
def x1w:FuncId:=89
def x4m:FuncId:=90
def x4n:FuncId:=91
def x4o:FuncId:=92
def x4p:FuncId:=93
def x2p:FuncId:=94
def x1x:FuncId:=95
def x4q:FuncId:=96
def x2q:FuncId:=97
def x4r:FuncId:=98
def x4s:FuncId:=99
def x4t:FuncId:=100
def x4u:FuncId:=101
def x1y:FuncId:=102
def x12:FuncId:=103
def x13:FuncId:=104
def xke:FuncId:=105
def x4v:FuncId:=106
def x4w:FuncId:=107
def x4x:FuncId:=108
def x4y:FuncId:=109
def x4z:FuncId:=110
def x50:FuncId:=111
def x51:FuncId:=112
def xr:FuncId:=113
def x52:FuncId:=114
def x2r:FuncId:=115
def x53:FuncId:=116
def x2s:FuncId:=117
def x1z:FuncId:=118
def x2t:FuncId:=119
def xh:FuncId:=120
def x54:FuncId:=121
def x55:FuncId:=122
def x1b:FuncId:=123
def x56:FuncId:=124
def x57:FuncId:=125
def x58:FuncId:=126
def x59:FuncId:=127
def x5a:FuncId:=128
def x2u:FuncId:=129
def x5b:FuncId:=130
def x5c:FuncId:=131
def x5d:FuncId:=132
def x5e:FuncId:=133
def x5f:FuncId:=134
def x5g:FuncId:=135
def x5h:FuncId:=136
def x5i:FuncId:=137
def x2v:FuncId:=138
def x5j:FuncId:=139
def x5k:FuncId:=140
def x5l:FuncId:=141
def x5m:FuncId:=142
def x2w:FuncId:=143
def x5n:FuncId:=144
def x2x:FuncId:=145
def x5o:FuncId:=146
def x5p:FuncId:=147
def x5q:FuncId:=148
def x5r:FuncId:=149
def x2y:FuncId:=150
def x2z:FuncId:=151
def x5s:FuncId:=152
def xt:FuncId:=153
def x1c:FuncId:=154
def x5t:FuncId:=155
def xdl:FuncId:=156
def x5u:FuncId:=157
def x30:FuncId:=158
def x5v:FuncId:=159
def x5w:FuncId:=160
def x5x:FuncId:=161
def x5y:FuncId:=162
def x5z:FuncId:=163
def x3q:FuncId:=164
def x60:FuncId:=165
def x61:FuncId:=166
def x31:FuncId:=167
def x62:FuncId:=168
def x63:FuncId:=169
def x64:FuncId:=170
def x65:FuncId:=171
def x66:FuncId:=172
def x92:FuncId:=173
def x93:FuncId:=174
def x67:FuncId:=175
def x68:FuncId:=176
def x69:FuncId:=177
def x6a:FuncId:=178
def x6b:FuncId:=179
def x32:FuncId:=180
def x20:FuncId:=181
def x33:FuncId:=182
def x6c:FuncId:=183
def x6d:FuncId:=184
def x6e:FuncId:=185
def x6f:FuncId:=186
def x6g:FuncId:=187
def x34:FuncId:=188
def x6h:FuncId:=189
def xyb:FuncId:=190
def x6i:FuncId:=191
def x6j:FuncId:=192
def x6k:FuncId:=193
def x35:FuncId:=194
def x1d:FuncId:=195
def x6l:FuncId:=196
def x6m:FuncId:=197
def x6n:FuncId:=198
def x6o:FuncId:=199
def x6p:FuncId:=200
def x6q:FuncId:=201
def xd:FuncId:=202
def x6r:FuncId:=203
def x6s:FuncId:=204
def x6t:FuncId:=205
def x6u:FuncId:=206
def x1e:FuncId:=207
def x36:FuncId:=208
def x6v:FuncId:=209
def x6w:FuncId:=210
def x6x:FuncId:=211
def x37:FuncId:=212
def x6y:FuncId:=213
def x6z:FuncId:=214
def x21:FuncId:=215
def x38:FuncId:=216
def x39:FuncId:=217
def xf:FuncId:=218
def x70:FuncId:=219
def x22:FuncId:=220
def x23:FuncId:=221
def x3m:TypeId:=2
def x15g:TypeId:=3
def x7w:TypeId:=4
def x1:TypeId:=5
def x0:TypeId:=9
def x4:TypeId:=21
def x5:TypeId:=22
def x140:TypeId:=25
def x7:TypeId:=41
def x74:TypeId:=44
def xar:TypeId:=47
def x7z:TypeId:=48
def x7y:TypeId:=49
def xs9:TypeId:=51
def x9:TypeId:=54
def xil:TypeId:=56
def xb:TypeId:=60
def x7p:TypeId:=62
def xk7:TypeId:=63
def xsa:TypeId:=65
def xa:TypeId:=67
def xe:TypeId:=85
def x1j:TypeId:=87
def xo:TypeId:=92
def xy1:TypeId:=93
def x141:TypeId:=96
def xsb:TypeId:=98
def xim:TypeId:=100
def xsc:TypeId:=105
def x142:TypeId:=109
def x3p:TypeId:=110
def x143:TypeId:=112
def x144:TypeId:=114
def x145:TypeId:=116
def x146:TypeId:=121
def xsd:TypeId:=125
def x147:TypeId:=130
def x148:TypeId:=132
def x2c:TypeId:=155
def x149:TypeId:=157
def xse:TypeId:=159
def xsf:TypeId:=174
def x6:TypeId:=182
def x14a:TypeId:=183
def x3:TypeId:=184
def x14b:TypeId:=190
def x14c:TypeId:=192
def x14d:TypeId:=195
def xy9:TypeId:=197
def xl6:TypeId:=199
def xll:TypeId:=200
def xom:TypeId:=202
def xin:TypeId:=203
def x3n:TypeId:=205
def x14e:TypeId:=208
def x14f:TypeId:=214
def xmu:TypeId:=216
def x14g:TypeId:=218
def xmz:TypeId:=220
def xn1:TypeId:=222
def xn3:TypeId:=224
def xy7:TypeId:=225
def xy8:TypeId:=226
def x1i:TypeId:=227
def x2:TypeId:=235
def x14h:TypeId:=240
def x14i:TypeId:=244
def x14j:TypeId:=246
def x14k:TypeId:=250
def xy6:TypeId:=255
def xof:TypeId:=272
def xc:TypeId:=275
def x88:TypeId:=278
def x14l:TypeId:=298
def x14:TypeId:=301
def xyf:TypeId:=307
def x14m:TypeId:=309
def x14n:TypeId:=312
noncomputable def x16n:List AV:=(zeroCells Tryz.prog x15g).getD []
noncomputable def xjj:List AV:=(zeroCells Tryz.prog x7w).getD []
noncomputable def x71:List AV:=(zeroCells Tryz.prog x1).getD []
noncomputable def xu:List AV:=(zeroCells Tryz.prog x0).getD []
noncomputable def xiq:List AV:=(zeroCells Tryz.prog x5).getD []
noncomputable def x7x:List AV:=(zeroCells Tryz.prog x140).getD []
noncomputable def x1f:List AV:=(zeroCells Tryz.prog x74).getD []
noncomputable def xir:List AV:=(zeroCells Tryz.prog xs9).getD []
noncomputable def x25:List AV:=(zeroCells Tryz.prog xil).getD []
noncomputable def x8:List AV:=(zeroCells Tryz.prog xb).getD []
noncomputable def xis:List AV:=(zeroCells Tryz.prog xsa).getD []
noncomputable def xml:List AV:=(zeroCells Tryz.prog xa).getD []
noncomputable def xjz:List AV:=(zeroCells Tryz.prog x141).getD []
noncomputable def xl:List AV:=(zeroCells Tryz.prog xsb).getD []
noncomputable def xm:List AV:=(zeroCells Tryz.prog xim).getD []
noncomputable def xiz:List AV:=(zeroCells Tryz.prog xsc).getD []
noncomputable def xn:List AV:=(zeroCells Tryz.prog x142).getD []
noncomputable def x9k:List AV:=(zeroCells Tryz.prog x143).getD []
noncomputable def x3h:List AV:=(zeroCells Tryz.prog x144).getD []
noncomputable def x3i:List AV:=(zeroCells Tryz.prog x145).getD []
noncomputable def xxy:List AV:=(zeroCells Tryz.prog x146).getD []
noncomputable def x9o:List AV:=(zeroCells Tryz.prog xsd).getD []
noncomputable def x3j:List AV:=(zeroCells Tryz.prog x147).getD []
noncomputable def x7f:List AV:=(zeroCells Tryz.prog x148).getD []
noncomputable def xy2:List AV:=(zeroCells Tryz.prog x149).getD []
noncomputable def x7u:List AV:=(zeroCells Tryz.prog xse).getD []
noncomputable def xj:List AV:=(zeroCells Tryz.prog xsf).getD []
noncomputable def xxz:List AV:=(zeroCells Tryz.prog x14a).getD []
noncomputable def xy0:List AV:=(zeroCells Tryz.prog x14b).getD []
noncomputable def x1h:List AV:=(zeroCells Tryz.prog x14c).getD []
noncomputable def xl2:List AV:=(zeroCells Tryz.prog x14d).getD []
noncomputable def xya:List AV:=(zeroCells Tryz.prog xom).getD []
noncomputable def x2d:List AV:=(zeroCells Tryz.prog xin).getD []
noncomputable def x3o:List AV:=(zeroCells Tryz.prog x14e).getD []
noncomputable def x85:List AV:=(zeroCells Tryz.prog x14f).getD []
noncomputable def xmt:List AV:=(zeroCells Tryz.prog xmu).getD []
noncomputable def x86:List AV:=(zeroCells Tryz.prog x14g).getD []
noncomputable def xmy:List AV:=(zeroCells Tryz.prog xmz).getD []
noncomputable def xn0:List AV:=(zeroCells Tryz.prog xn1).getD []
noncomputable def xn2:List AV:=(zeroCells Tryz.prog xn3).getD []
noncomputable def xy3:List AV:=(zeroCells Tryz.prog x14h).getD []
noncomputable def xy4:List AV:=(zeroCells Tryz.prog x14i).getD []
noncomputable def xy5:List AV:=(zeroCells Tryz.prog x14j).getD []
noncomputable def xeg:List AV:=(zeroCells Tryz.prog x14k).getD []
noncomputable def x8a:List AV:=(zeroCells Tryz.prog x14l).getD []
noncomputable def xyd:List AV:=(zeroCells Tryz.prog x14).getD []
noncomputable def xye:List AV:=(zeroCells Tryz.prog x14m).getD []
noncomputable def xyg:List AV:=(zeroCells Tryz.prog x14n).getD []
end Go.Ix
