import Derived.Test.YtaoalekmhjclnaaGreatDoorFxDefs
import Derived.Test.YtaoalekmhjclnaaGreatDoorProg
namespace Go.Ix
open Go.Proofs
def pol:Pol:=λf t=>match f with
 |8=>if t=41 then 7 else if t=87 then 7 else if t=118 then 7 else 0
 |10=>if t=16 then 2 else if t=22 then 7 else 0
 |17=>if t=25 then 7 else 0
 |21=>if t=76 then 2 else 0
 |22=>if t=32 then 7 else 0
 |26=>if t=75 then 2 else 0
 |33=>if t=28 then 7 else 0
 |38=>if t=17 then 2 else 0
 |46=>if t=11 then 7 else 0
 |49=>if t=30 then 7 else 0
 |50=>if t=29 then 7 else 0
 |51=>if t=35 then 7 else 0
 |58=>if t=8 then 2 else 0
 |65=>if t=31 then 7 else 0
 |69=>if t=20 then 2 else if t=30 then 2 else 0
 |79=>if t=16 then 2 else 0
 |81=>if t=38 then 2 else 0
 |87=>if t=18 then 2 else if t=27 then 2 else if t=43 then 2 else if t=60 then 2 else 0
 |88=>if t=11 then 7 else 0
 |93=>if t=23 then 7 else if t=64 then 2 else if t=77 then 2 else if t=87 then 6 else 0
 |106=>if t=32 then 2 else 0
 |107=>if t=49 then 2 else if t=101 then 2 else if t=169 then 2 else if t=191 then 2 else if t=205 then 2 else if t=219 then 2 else 0
 |108=>if t=16 then 2 else 0
 |114=>if t=16 then 2 else 0
 |119=>if t=68 then 8 else if t=98 then 2 else 0
 |120=>if t=49 then 2 else if t=57 then 2 else 0
 |126=>if t=31 then 2 else if t=46 then 2 else if t=57 then 2 else 0
 |130=>if t=35 then 2 else 0
 |131=>if t=12 then 1 else if t=27 then 2 else 0
 |133=>if t=18 then 2 else 0
 |135=>if t=20 then 2 else 0
 |136=>if t=14 then 2 else 0
 |137=>if t=18 then 2 else 0
 |149=>if t=7 then 2 else 0
 |153=>if t=23 then 2 else if t=28 then 1 else if t=42 then 2 else if t=49 then 2 else 0
 |154=>if t=42 then 2 else 0
 |158=>if t=1000000 then 2 else 0
 |159=>if t=1000000 then 1 else 0
 |169=>if t=16 then 2 else 0
 |170=>if t=8 then 2 else 0
 |173=>if t=10 then 2 else 0
 |174=>if t=38 then 2 else 0
 |185=>if t=18 then 2 else if t=27 then 2 else if t=43 then 2 else if t=60 then 2 else 0
 |187=>if t=27 then 2 else if t=33 then 2 else if t=39 then 2 else if t=46 then 2 else if t=54 then 2 else if t=72 then 2 else if t=92 then 2 else if t=99 then 2 else if t=121 then 2 else if t=132 then 2 else 0
 |199=>if t=7 then 7 else 0
 |201=>if t=32 then 2 else 0
 |202=>if t=49 then 2 else if t=101 then 2 else if t=169 then 2 else if t=191 then 2 else if t=205 then 2 else if t=219 then 2 else 0
 |204=>if t=26 then 2 else if t=55 then 2 else 0
 |205=>if t=36 then 2 else 0
 |206=>if t=37 then 2 else if t=40 then 2 else if t=43 then 2 else if t=48 then 2 else 0
 |222=>if t=16 then 2 else 0
 |223=>if t=31 then 2 else if t=46 then 2 else if t=57 then 2 else 0
 |227=>if t=14 then 2 else 0
 |228=>if t=16 then 2 else if t=24 then 2 else if t=32 then 2 else 0
 |257=>if t=24 then 7 else if t=62 then 6 else 0
 |260=>if t=13 then 7 else if t=19 then 7 else if t=25 then 7 else if t=56 then 7 else if t=68 then 6 else 0
 |261=>if t=9 then 7 else 0
 |262=>if t=7 then 7 else 0
 |266=>if t=16 then 2 else 0
 |267=>if t=15 then 7 else if t=30 then 8 else 0
 |269=>if t=14 then 7 else if t=20 then 7 else if t=53 then 7 else if t=60 then 6 else 0
 |270=>if t=7 then 7 else 0
 |273=>if t=16 then 2 else 0
 |274=>if t=12 then 7 else if t=39 then 6 else if t=51 then 2 else 0
 |278=>if t=12 then 7 else if t=40 then 8 else if t=42 then 6 else 0
 |279=>if t=10 then 2 else if t=28 then 2 else 0
 |_=>0
def NN:Nat:=18446744073709551616
abbrev O2:=Option (AV×Mem)
abbrev FnT:=x17y->FHs->List AV->Mem->O2
abbrev x1au:=AV->AV->AV->AV->AV->AV->AV->AV->AV->AV->Mem->Nat->O2
abbrev x1dx:=AV->AV->AV->AV->AV->AV->AV->AV->AV->AV->AV->Mem->Nat->O2
abbrev x1a4:=AV->AV->Mem->Nat->O2
abbrev x18e:=AV->AV->AV->Mem->Nat->O2
abbrev x184:=AV->AV->AV->AV->Mem->Nat->O2
abbrev x189:=AV->AV->AV->AV->AV->Mem->Nat->O2
abbrev x18h:=AV->AV->AV->AV->AV->AV->Mem->Nat->O2
abbrev x18x:=AV->AV->AV->AV->AV->AV->AV->Mem->Nat->O2
abbrev x1cl:=AV->AV->AV->AV->AV->AV->AV->AV->Mem->Nat->O2
abbrev x1ac:=AV->AV->AV->AV->AV->AV->AV->AV->AV->Mem->Nat->O2
abbrev FxKtm2:=x17y->FHs->Nat->AV->AV->Mem->Nat->Option Mem
abbrev FxKtm3:=x17y->FHs->Nat->AV->AV->AV->Mem->Nat->Option Mem
abbrev FxKtm4:=x17y->FHs->Nat->AV->AV->AV->AV->Mem->Nat->Option Mem
abbrev FxKtm6:=x17y->FHs->Nat->AV->AV->AV->AV->AV->AV->Mem->Nat->Option Mem
abbrev x1eu:=x17y->FHs->Nat->AV->AV->AV->AV->AV->AV->AV->Mem->Nat->Option Mem
abbrev FxKtm8:=x17y->FHs->Nat->AV->AV->AV->AV->AV->AV->AV->AV->Mem->Nat->Option Mem
abbrev x190:=x17y->FHs->Nat->Mem->Nat->O2
abbrev x187:=x17y->FHs->Nat->AV->Mem->Nat->O2
abbrev FxKtr10:=x17y->FHs->Nat->AV->AV->AV->AV->AV->AV->AV->AV->AV->AV->Mem->Nat->O2
abbrev x186:=x17y->FHs->Nat->AV->AV->Mem->Nat->O2
abbrev x18j:=x17y->FHs->Nat->AV->AV->AV->Mem->Nat->O2
abbrev x19c:=x17y->FHs->Nat->AV->AV->AV->AV->Mem->Nat->O2
abbrev x19v:=x17y->FHs->Nat->AV->AV->AV->AV->AV->Mem->Nat->O2
abbrev x1av:=x17y->FHs->Nat->AV->AV->AV->AV->AV->AV->Mem->Nat->O2
abbrev x1ck:=x17y->FHs->Nat->AV->AV->AV->AV->AV->AV->AV->Mem->Nat->O2
abbrev x1ev:=x17y->FHs->Nat->AV->AV->AV->AV->AV->AV->AV->AV->Mem->Nat->O2
abbrev x1ew:=x17y->FHs->Nat->AV->AV->AV->AV->AV->AV->AV->AV->AV->Mem->Nat->O2
def x4b:FuncId:=3
def x2x:FuncId:=6
def x1u:FuncId:=7
def x11:FuncId:=8
def x1g:FuncId:=9
def x1v:FuncId:=10
def x1w:FuncId:=11
def x1h:FuncId:=12
def x1x:FuncId:=13
def x1y:FuncId:=14
def x1z:FuncId:=15
def x5l:FuncId:=17
def x5m:FuncId:=19
def x5n:FuncId:=30
def x4c:FuncId:=31
def x4d:FuncId:=32
def x5o:FuncId:=33
def x5p:FuncId:=34
def x5q:FuncId:=35
def xm:FuncId:=36
def x18:FuncId:=37
def xv:FuncId:=38
def x20:FuncId:=39
def x21:FuncId:=40
def xp:FuncId:=41
def x1i:FuncId:=42
def x1j:FuncId:=43
def x22:FuncId:=44
def x23:FuncId:=45
def x1k:FuncId:=46
def x1l:FuncId:=47
def xq:FuncId:=48
def x2y:FuncId:=49
def x2z:FuncId:=50
def x30:FuncId:=51
def x31:FuncId:=52
def x5s:FuncId:=53
def x32:FuncId:=54
def x1m:FuncId:=55
def x5t:FuncId:=56
def x5u:FuncId:=57
def x1n:FuncId:=60
def x19:FuncId:=61
def x5v:FuncId:=62
def x5w:FuncId:=65
def x5x:FuncId:=66
def x4e:FuncId:=67
def x4f:FuncId:=68
def x4g:FuncId:=69
def x5y:FuncId:=70
def x5z:FuncId:=71
def x60:FuncId:=72
def x24:FuncId:=73
def x25:FuncId:=74
def x26:FuncId:=75
def x1o:FuncId:=76
def xn:FuncId:=77
def x33:FuncId:=78
def x27:FuncId:=79
def xr:FuncId:=80
def xw:FuncId:=81
def x34:FuncId:=82
def x35:FuncId:=83
def x28:FuncId:=84
def x12:FuncId:=85
def x1a:FuncId:=86
def x61:FuncId:=88
def x4h:FuncId:=89
def x4i:FuncId:=90
def x4j:FuncId:=91
def x62:FuncId:=92
def x63:FuncId:=93
def x64:FuncId:=94
def x4k:FuncId:=95
def x65:FuncId:=96
def x36:FuncId:=97
def xx:FuncId:=98
def x1p:FuncId:=99
def x4l:FuncId:=100
def x37:FuncId:=101
def x38:FuncId:=102
def x39:FuncId:=103
def x3a:FuncId:=104
def x1q:FuncId:=105
def x66:FuncId:=108
def x67:FuncId:=109
def x68:FuncId:=110
def x69:FuncId:=111
def x4m:FuncId:=112
def x1r:FuncId:=113
def x6a:FuncId:=114
def x6b:FuncId:=115
def x4n:FuncId:=116
def x29:FuncId:=117
def x3b:FuncId:=118
def x6c:FuncId:=119
def x4o:FuncId:=120
def x6d:FuncId:=121
def x3c:FuncId:=122
def x3d:FuncId:=123
def x4p:FuncId:=124
def x1b:FuncId:=125
def x6e:FuncId:=127
def x1c:FuncId:=128
def x6f:FuncId:=129
def x4q:FuncId:=130
def x6g:FuncId:=131
def x6h:FuncId:=132
def x6i:FuncId:=133
def x2a:FuncId:=134
def x6j:FuncId:=135
def x6k:FuncId:=136
def x6l:FuncId:=137
def x6m:FuncId:=138
def x6n:FuncId:=139
def x4r:FuncId:=140
def x6o:FuncId:=141
def x6p:FuncId:=142
def x6q:FuncId:=143
def x6r:FuncId:=144
def x4s:FuncId:=145
def x3e:FuncId:=146
def x6s:FuncId:=148
def x4t:FuncId:=149
def x6t:FuncId:=150
def x4u:FuncId:=151
def x6u:FuncId:=152
def x6v:FuncId:=153
def x6w:FuncId:=154
def x6x:FuncId:=155
def x4v:FuncId:=156
def x4w:FuncId:=157
def x118:FuncId:=158
def xhf:FuncId:=159
def x6y:FuncId:=160
def x4x:FuncId:=161
def x6z:FuncId:=162
def x70:FuncId:=163
def x4y:FuncId:=164
def xpj:FuncId:=165
def x71:FuncId:=166
def x72:FuncId:=167
def x73:FuncId:=168
def x5k:FuncId:=169
def x74:FuncId:=170
def x75:FuncId:=171
def x4z:FuncId:=172
def x76:FuncId:=173
def x77:FuncId:=174
def x78:FuncId:=175
def xcn:FuncId:=176
def xco:FuncId:=177
def xcp:FuncId:=178
def x79:FuncId:=179
def x7a:FuncId:=180
def x7b:FuncId:=181
def x11a:FuncId:=182
def x7c:FuncId:=183
def x7d:FuncId:=184
def x7e:FuncId:=185
def x50:FuncId:=186
def x3f:FuncId:=187
def x51:FuncId:=188
def x7f:FuncId:=189
def x7g:FuncId:=190
def x7h:FuncId:=191
def x7i:FuncId:=192
def x7j:FuncId:=193
def x7k:FuncId:=194
def x52:FuncId:=195
def x7l:FuncId:=196
def x11c:FuncId:=197
def x7m:FuncId:=198
def x7n:FuncId:=199
def x7o:FuncId:=200
def x53:FuncId:=201
def x2b:FuncId:=202
def x7p:FuncId:=203
def x7q:FuncId:=204
def x7r:FuncId:=205
def x7s:FuncId:=206
def x7t:FuncId:=207
def x7u:FuncId:=208
def xf:FuncId:=209
def x7v:FuncId:=210
def x7w:FuncId:=211
def x7x:FuncId:=212
def x54:FuncId:=213
def x7y:FuncId:=214
def x2c:FuncId:=215
def x55:FuncId:=216
def x7z:FuncId:=217
def x80:FuncId:=218
def x81:FuncId:=219
def x82:FuncId:=220
def x83:FuncId:=221
def x84:FuncId:=222
def x85:FuncId:=223
def x56:FuncId:=224
def x86:FuncId:=225
def x87:FuncId:=226
def x3g:FuncId:=227
def x57:FuncId:=228
def x58:FuncId:=229
def xi:FuncId:=230
def x88:FuncId:=231
def x89:FuncId:=232
def x8a:FuncId:=233
def x8b:FuncId:=234
def x8c:FuncId:=235
def x3h:FuncId:=236
def x3i:FuncId:=237
def x8d:FuncId:=238
def x8e:FuncId:=239
def x5j:TypeId:=2
def x18n:TypeId:=3
def x15:TypeId:=4
def x6:TypeId:=5
def x5:TypeId:=9
def x9:TypeId:=21
def xj:TypeId:=22
def xu:TypeId:=23
def xt:TypeId:=24
def x4a:TypeId:=26
def xv1:TypeId:=29
def xc:TypeId:=32
def xg:TypeId:=39
def x96:TypeId:=42
def xmy:TypeId:=43
def xv2:TypeId:=45
def x8g:TypeId:=65
def x5f:TypeId:=69
def xmq:TypeId:=72
def x17e:TypeId:=77
def xk:TypeId:=79
def x2u:TypeId:=81
def x17:TypeId:=83
def x2v:TypeId:=85
def x2w:TypeId:=87
def x16:TypeId:=96
def x111:TypeId:=97
def x17f:TypeId:=100
def xv3:TypeId:=102
def x17g:TypeId:=104
def x17h:TypeId:=112
def x17i:TypeId:=115
def xv4:TypeId:=117
def xmr:TypeId:=132
def xv5:TypeId:=137
def x5b:TypeId:=145
def x5c:TypeId:=146
def xqn:TypeId:=148
def xl:TypeId:=149
def x2h:TypeId:=151
def xba:TypeId:=154
def xd:TypeId:=174
def x49:TypeId:=184
def x17j:TypeId:=186
def xv6:TypeId:=188
def xv7:TypeId:=200
def xb:TypeId:=206
def x17k:TypeId:=208
def x17l:TypeId:=210
def x17m:TypeId:=213
def x119:TypeId:=214
def x17n:TypeId:=219
def xp8:TypeId:=221
def x17o:TypeId:=223
def xpd:TypeId:=225
def xpf:TypeId:=227
def xph:TypeId:=229
def x116:TypeId:=230
def x117:TypeId:=231
def x2r:TypeId:=232
def x17p:TypeId:=241
def x17q:TypeId:=243
def x17r:TypeId:=247
def x115:TypeId:=249
def x2s:TypeId:=251
def x7:TypeId:=265
def xqg:TypeId:=269
def xe:TypeId:=273
def xb2:TypeId:=276
def x8:TypeId:=295
def x17s:TypeId:=300
def x17t:TypeId:=302
def x1t:TypeId:=307
def x11i:TypeId:=314
def x17u:TypeId:=316
def x17v:TypeId:=319
def x17w:TypeId:=322
noncomputable def x1a0:List AV:=(zeroCells Tryz.prog x18n).getD []
noncomputable def xnt:List AV:=(zeroCells Tryz.prog x15).getD []
noncomputable def x11g:List AV:=(zeroCells Tryz.prog x6).getD []
noncomputable def xh:List AV:=(zeroCells Tryz.prog x5).getD []
noncomputable def x1e:List AV:=(zeroCells Tryz.prog x4a).getD []
noncomputable def x1d:List AV:=(zeroCells Tryz.prog xv1).getD []
noncomputable def xd5:List AV:=(zeroCells Tryz.prog xc).getD []
noncomputable def xp2:List AV:=(zeroCells Tryz.prog xg).getD []
noncomputable def xn2:List AV:=(zeroCells Tryz.prog xv2).getD []
noncomputable def x2d:List AV:=(zeroCells Tryz.prog x8g).getD []
noncomputable def x3k:List AV:=(zeroCells Tryz.prog xmq).getD []
noncomputable def xy:List AV:=(zeroCells Tryz.prog x17e).getD []
noncomputable def x2g:List AV:=(zeroCells Tryz.prog x2u).getD []
noncomputable def xa:List AV:=(zeroCells Tryz.prog x17).getD []
noncomputable def x13:List AV:=(zeroCells Tryz.prog x2v).getD []
noncomputable def x2e:List AV:=(zeroCells Tryz.prog x2w).getD []
noncomputable def x9m:List AV:=(zeroCells Tryz.prog x17f).getD []
noncomputable def xo:List AV:=(zeroCells Tryz.prog xv3).getD []
noncomputable def xe3:List AV:=(zeroCells Tryz.prog x17g).getD []
noncomputable def x5a:List AV:=(zeroCells Tryz.prog x17h).getD []
noncomputable def x95:List AV:=(zeroCells Tryz.prog x17i).getD []
noncomputable def xdj:List AV:=(zeroCells Tryz.prog xv4).getD []
noncomputable def x14:List AV:=(zeroCells Tryz.prog xmr).getD []
noncomputable def xn9:List AV:=(zeroCells Tryz.prog xv5).getD []
noncomputable def x11b:List AV:=(zeroCells Tryz.prog xqn).getD []
noncomputable def x1s:List AV:=(zeroCells Tryz.prog xl).getD []
noncomputable def xz:List AV:=(zeroCells Tryz.prog xba).getD []
noncomputable def x112:List AV:=(zeroCells Tryz.prog x17j).getD []
noncomputable def xam:List AV:=(zeroCells Tryz.prog xv6).getD []
noncomputable def x10:List AV:=(zeroCells Tryz.prog xv7).getD []
noncomputable def x110:List AV:=(zeroCells Tryz.prog x17k).getD []
noncomputable def x2q:List AV:=(zeroCells Tryz.prog x17l).getD []
noncomputable def xom:List AV:=(zeroCells Tryz.prog x17m).getD []
noncomputable def xaz:List AV:=(zeroCells Tryz.prog x17n).getD []
noncomputable def xp7:List AV:=(zeroCells Tryz.prog xp8).getD []
noncomputable def xb0:List AV:=(zeroCells Tryz.prog x17o).getD []
noncomputable def xpc:List AV:=(zeroCells Tryz.prog xpd).getD []
noncomputable def xpe:List AV:=(zeroCells Tryz.prog xpf).getD []
noncomputable def xpg:List AV:=(zeroCells Tryz.prog xph).getD []
noncomputable def x113:List AV:=(zeroCells Tryz.prog x17p).getD []
noncomputable def x114:List AV:=(zeroCells Tryz.prog x17q).getD []
noncomputable def xhw:List AV:=(zeroCells Tryz.prog x17r).getD []
noncomputable def xb4:List AV:=(zeroCells Tryz.prog x17s).getD []
noncomputable def x11d:List AV:=(zeroCells Tryz.prog x17t).getD []
noncomputable def x11f:List AV:=(zeroCells Tryz.prog x1t).getD []
noncomputable def x11h:List AV:=(zeroCells Tryz.prog x17u).getD []
noncomputable def x11j:List AV:=(zeroCells Tryz.prog x17v).getD []
noncomputable def x11k:List AV:=(zeroCells Tryz.prog x17w).getD []
end Go.Ix
