import Derived.Test.YtaoalekmhjclnaaGreatDoorFxDefs
import Derived.Test.YtaoalekmhjclnaaGreatDoorProg
namespace Go.Ix
open Go.Proofs
def pol:Pol:=λf t=>match f with
 |8=>if t=41 then 7 else if t=87 then 7 else if t=118 then 7 else 0
 |10=>if t=16 then 2 else if t=22 then 7 else 0
 |17=>if t=25 then 7 else 0
 |21=>if t=76 then 2 else 0
 |22=>if t=32 then 7 else 0
 |26=>if t=75 then 2 else 0
 |33=>if t=28 then 7 else 0
 |38=>if t=17 then 2 else 0
 |46=>if t=11 then 7 else 0
 |49=>if t=30 then 7 else 0
 |50=>if t=29 then 7 else 0
 |51=>if t=35 then 7 else 0
 |58=>if t=8 then 2 else 0
 |65=>if t=31 then 7 else 0
 |69=>if t=20 then 2 else if t=30 then 2 else 0
 |79=>if t=16 then 2 else 0
 |81=>if t=38 then 2 else 0
 |87=>if t=18 then 2 else if t=27 then 2 else if t=43 then 2 else if t=60 then 2 else 0
 |88=>if t=11 then 7 else 0
 |93=>if t=23 then 7 else if t=64 then 2 else if t=77 then 2 else if t=87 then 6 else 0
 |106=>if t=32 then 2 else 0
 |107=>if t=49 then 2 else if t=101 then 2 else if t=169 then 2 else if t=191 then 2 else if t=205 then 2 else if t=219 then 2 else 0
 |108=>if t=16 then 2 else 0
 |114=>if t=16 then 2 else 0
 |119=>if t=68 then 8 else if t=98 then 2 else 0
 |120=>if t=49 then 2 else if t=57 then 2 else 0
 |126=>if t=31 then 2 else if t=46 then 2 else if t=57 then 2 else 0
 |130=>if t=35 then 2 else 0
 |131=>if t=12 then 1 else if t=27 then 2 else 0
 |133=>if t=18 then 2 else 0
 |135=>if t=20 then 2 else 0
 |136=>if t=14 then 2 else 0
 |137=>if t=18 then 2 else 0
 |149=>if t=7 then 2 else 0
 |153=>if t=23 then 2 else if t=28 then 1 else if t=42 then 2 else if t=49 then 2 else 0
 |154=>if t=42 then 2 else 0
 |158=>if t=1000000 then 2 else 0
 |159=>if t=1000000 then 1 else 0
 |169=>if t=16 then 2 else 0
 |170=>if t=8 then 2 else 0
 |173=>if t=10 then 2 else 0
 |174=>if t=38 then 2 else 0
 |185=>if t=18 then 2 else if t=27 then 2 else if t=43 then 2 else if t=60 then 2 else 0
 |187=>if t=27 then 2 else if t=33 then 2 else if t=39 then 2 else if t=46 then 2 else if t=54 then 2 else if t=72 then 2 else if t=92 then 2 else if t=99 then 2 else if t=121 then 2 else if t=132 then 2 else 0
 |199=>if t=7 then 7 else 0
 |201=>if t=32 then 2 else 0
 |202=>if t=49 then 2 else if t=101 then 2 else if t=169 then 2 else if t=191 then 2 else if t=205 then 2 else if t=219 then 2 else 0
 |204=>if t=26 then 2 else if t=55 then 2 else 0
 |205=>if t=36 then 2 else 0
 |206=>if t=37 then 2 else if t=40 then 2 else if t=43 then 2 else if t=48 then 2 else 0
 |222=>if t=16 then 2 else 0
 |223=>if t=31 then 2 else if t=46 then 2 else if t=57 then 2 else 0
 |227=>if t=14 then 2 else 0
 |228=>if t=16 then 2 else if t=24 then 2 else if t=32 then 2 else 0
 |257=>if t=24 then 7 else if t=62 then 6 else 0
 |260=>if t=13 then 7 else if t=19 then 7 else if t=25 then 7 else if t=56 then 7 else if t=68 then 6 else 0
 |261=>if t=9 then 7 else 0
 |262=>if t=7 then 7 else 0
 |266=>if t=16 then 2 else 0
 |267=>if t=15 then 7 else if t=30 then 8 else 0
 |269=>if t=14 then 7 else if t=20 then 7 else if t=53 then 7 else if t=60 then 6 else 0
 |270=>if t=7 then 7 else 0
 |273=>if t=16 then 2 else 0
 |274=>if t=12 then 7 else if t=39 then 6 else if t=51 then 2 else 0
 |278=>if t=12 then 7 else if t=40 then 8 else if t=42 then 6 else 0
 |279=>if t=10 then 2 else if t=28 then 2 else 0
 |_=>0
def NN:Nat:=18446744073709551616
abbrev O2:=Option (AV×Mem)
abbrev FnT:=x17c->FHs->List AV->Mem->O2
abbrev x19k:=AV->AV->AV->AV->AV->AV->AV->AV->AV->AV->Mem->Nat->O2
abbrev x1cv:=AV->AV->AV->AV->AV->AV->AV->AV->AV->AV->AV->Mem->Nat->O2
abbrev x19r:=AV->AV->Mem->Nat->O2
abbrev x17v:=AV->AV->AV->Mem->Nat->O2
abbrev x17i:=AV->AV->AV->AV->Mem->Nat->O2
abbrev x17j:=AV->AV->AV->AV->AV->Mem->Nat->O2
abbrev x17n:=AV->AV->AV->AV->AV->AV->Mem->Nat->O2
abbrev x187:=AV->AV->AV->AV->AV->AV->AV->Mem->Nat->O2
abbrev x1br:=AV->AV->AV->AV->AV->AV->AV->AV->Mem->Nat->O2
abbrev x199:=AV->AV->AV->AV->AV->AV->AV->AV->AV->Mem->Nat->O2
abbrev FxKtm2:=x17c->FHs->Nat->AV->AV->Mem->Nat->Option Mem
abbrev FxKtm4:=x17c->FHs->Nat->AV->AV->AV->AV->Mem->Nat->Option Mem
abbrev FxKtm6:=x17c->FHs->Nat->AV->AV->AV->AV->AV->AV->Mem->Nat->Option Mem
abbrev x1du:=x17c->FHs->Nat->AV->AV->AV->AV->AV->AV->AV->Mem->Nat->Option Mem
abbrev FxKtm8:=x17c->FHs->Nat->AV->AV->AV->AV->AV->AV->AV->AV->Mem->Nat->Option Mem
abbrev x18e:=x17c->FHs->Nat->Mem->Nat->O2
abbrev x17l:=x17c->FHs->Nat->AV->Mem->Nat->O2
abbrev FxKtr10:=x17c->FHs->Nat->AV->AV->AV->AV->AV->AV->AV->AV->AV->AV->Mem->Nat->O2
abbrev x17k:=x17c->FHs->Nat->AV->AV->Mem->Nat->O2
abbrev x17u:=x17c->FHs->Nat->AV->AV->AV->Mem->Nat->O2
abbrev x18f:=x17c->FHs->Nat->AV->AV->AV->AV->Mem->Nat->O2
abbrev x18m:=x17c->FHs->Nat->AV->AV->AV->AV->AV->Mem->Nat->O2
abbrev x19s:=x17c->FHs->Nat->AV->AV->AV->AV->AV->AV->Mem->Nat->O2
abbrev x1ax:=x17c->FHs->Nat->AV->AV->AV->AV->AV->AV->AV->Mem->Nat->O2
abbrev x1cf:=x17c->FHs->Nat->AV->AV->AV->AV->AV->AV->AV->AV->Mem->Nat->O2
abbrev x1cw:=x17c->FHs->Nat->AV->AV->AV->AV->AV->AV->AV->AV->AV->Mem->Nat->O2
def x38:FuncId:=4
def x26:FuncId:=6
def x4s:FuncId:=8
def x4t:FuncId:=13
def x1c:FuncId:=16
def x10:FuncId:=17
def xu:FuncId:=18
def x11:FuncId:=19
def x1d:FuncId:=20
def xv:FuncId:=21
def x1e:FuncId:=22
def x1f:FuncId:=23
def x1g:FuncId:=24
def x27:FuncId:=25
def x4v:FuncId:=30
def x3a:FuncId:=31
def x3b:FuncId:=32
def x4w:FuncId:=33
def x4x:FuncId:=34
def x4y:FuncId:=35
def xc:FuncId:=36
def x28:FuncId:=37
def xi:FuncId:=38
def x4z:FuncId:=39
def x3c:FuncId:=40
def xw:FuncId:=41
def x29:FuncId:=42
def x50:FuncId:=43
def x51:FuncId:=44
def x52:FuncId:=45
def x53:FuncId:=46
def x54:FuncId:=47
def xd:FuncId:=48
def xe:FuncId:=53
def x12:FuncId:=54
def xn:FuncId:=55
def x13:FuncId:=56
def x14:FuncId:=57
def x2a:FuncId:=58
def x15:FuncId:=59
def x2b:FuncId:=60
def x1h:FuncId:=61
def x1i:FuncId:=62
def x55:FuncId:=65
def x56:FuncId:=66
def x3d:FuncId:=67
def x3e:FuncId:=68
def x3f:FuncId:=69
def x57:FuncId:=70
def x58:FuncId:=71
def x59:FuncId:=72
def x1j:FuncId:=73
def x3g:FuncId:=74
def x2c:FuncId:=75
def x3h:FuncId:=76
def xh:FuncId:=77
def x5a:FuncId:=78
def x5b:FuncId:=79
def x5c:FuncId:=80
def x5d:FuncId:=81
def x5e:FuncId:=82
def x2d:FuncId:=87
def x5f:FuncId:=88
def x3i:FuncId:=89
def x3j:FuncId:=90
def x3k:FuncId:=91
def x5g:FuncId:=92
def x5h:FuncId:=93
def x5i:FuncId:=94
def x3l:FuncId:=95
def x5j:FuncId:=96
def x5k:FuncId:=97
def xx:FuncId:=98
def x1k:FuncId:=99
def x5l:FuncId:=100
def x5m:FuncId:=101
def x5n:FuncId:=102
def x1l:FuncId:=106
def xy:FuncId:=107
def x5o:FuncId:=108
def x5p:FuncId:=109
def x5q:FuncId:=110
def x5r:FuncId:=111
def x3m:FuncId:=112
def x16:FuncId:=113
def x5s:FuncId:=114
def x5t:FuncId:=115
def x3n:FuncId:=116
def x1m:FuncId:=117
def x2e:FuncId:=118
def x5u:FuncId:=119
def x3o:FuncId:=120
def x5v:FuncId:=121
def x2f:FuncId:=122
def x5w:FuncId:=123
def x5x:FuncId:=124
def x2g:FuncId:=126
def x5y:FuncId:=127
def xz:FuncId:=128
def x5z:FuncId:=129
def x3p:FuncId:=130
def x60:FuncId:=131
def x61:FuncId:=132
def x62:FuncId:=133
def x1n:FuncId:=134
def x63:FuncId:=135
def x64:FuncId:=136
def x65:FuncId:=137
def x66:FuncId:=138
def x67:FuncId:=139
def x3q:FuncId:=140
def x68:FuncId:=141
def x69:FuncId:=142
def x6a:FuncId:=143
def x6b:FuncId:=144
def x3r:FuncId:=145
def x17:FuncId:=147
def x6c:FuncId:=148
def x3s:FuncId:=149
def x6d:FuncId:=150
def x3t:FuncId:=151
def x6e:FuncId:=152
def x6f:FuncId:=153
def x6g:FuncId:=154
def x6h:FuncId:=155
def x3u:FuncId:=156
def x3v:FuncId:=157
def x10o:FuncId:=158
def xfv:FuncId:=159
def x6i:FuncId:=160
def x3w:FuncId:=161
def x6j:FuncId:=162
def x6k:FuncId:=163
def x3x:FuncId:=164
def xp4:FuncId:=165
def x6l:FuncId:=166
def x6m:FuncId:=167
def x6n:FuncId:=168
def x4r:FuncId:=169
def x6o:FuncId:=170
def x6p:FuncId:=171
def x3y:FuncId:=172
def x6q:FuncId:=173
def x6r:FuncId:=174
def x6s:FuncId:=175
def xb5:FuncId:=176
def xb6:FuncId:=177
def xb7:FuncId:=178
def x6t:FuncId:=179
def x6u:FuncId:=180
def x6v:FuncId:=181
def x10q:FuncId:=182
def x6w:FuncId:=183
def x6x:FuncId:=184
def x6y:FuncId:=185
def x3z:FuncId:=186
def x2h:FuncId:=187
def x40:FuncId:=188
def x6z:FuncId:=189
def x70:FuncId:=190
def x71:FuncId:=191
def x72:FuncId:=192
def x73:FuncId:=193
def x74:FuncId:=194
def x41:FuncId:=195
def x75:FuncId:=196
def x10s:FuncId:=197
def x76:FuncId:=198
def x77:FuncId:=199
def x78:FuncId:=200
def x42:FuncId:=201
def x1o:FuncId:=202
def x79:FuncId:=203
def x7a:FuncId:=204
def x7b:FuncId:=205
def x7c:FuncId:=206
def x7d:FuncId:=207
def x7e:FuncId:=208
def xa:FuncId:=209
def x7f:FuncId:=210
def x7g:FuncId:=211
def x7h:FuncId:=212
def x43:FuncId:=213
def x7i:FuncId:=214
def x1p:FuncId:=215
def x44:FuncId:=216
def x7j:FuncId:=217
def x7k:FuncId:=218
def x7l:FuncId:=219
def x7m:FuncId:=220
def x7n:FuncId:=221
def x7o:FuncId:=222
def x7p:FuncId:=223
def x45:FuncId:=224
def x7q:FuncId:=225
def x7r:FuncId:=226
def x2i:FuncId:=227
def x46:FuncId:=228
def x47:FuncId:=229
def xb:FuncId:=230
def x7s:FuncId:=231
def x7t:FuncId:=232
def x7u:FuncId:=233
def x7v:FuncId:=234
def x7w:FuncId:=235
def x2j:FuncId:=236
def x2k:FuncId:=237
def x7x:FuncId:=238
def x7y:FuncId:=239
def x4q:TypeId:=2
def x17r:TypeId:=3
def x9m:TypeId:=4
def x1:TypeId:=5
def x0:TypeId:=9
def x5:TypeId:=21
def xbe:TypeId:=22
def x83:TypeId:=23
def x82:TypeId:=24
def xum:TypeId:=26
def x16p:TypeId:=29
def x7:TypeId:=32
def x6:TypeId:=39
def xf:TypeId:=42
def xg:TypeId:=43
def x36:TypeId:=45
def x80:TypeId:=65
def x4i:TypeId:=69
def xl6:TypeId:=72
def x16q:TypeId:=77
def x4h:TypeId:=79
def x16r:TypeId:=81
def x16s:TypeId:=83
def x16t:TypeId:=85
def x16u:TypeId:=87
def xt:TypeId:=96
def x10h:TypeId:=97
def x16v:TypeId:=100
def xun:TypeId:=102
def x16w:TypeId:=104
def x25:TypeId:=112
def x37:TypeId:=115
def xuo:TypeId:=117
def x8e:TypeId:=121
def xup:TypeId:=123
def xl7:TypeId:=132
def xuq:TypeId:=137
def xlt:TypeId:=145
def xm5:TypeId:=146
def xq8:TypeId:=148
def xl8:TypeId:=149
def x4f:TypeId:=151
def x16x:TypeId:=154
def x8:TypeId:=174
def x34:TypeId:=184
def x16y:TypeId:=186
def xur:TypeId:=188
def xus:TypeId:=200
def x3:TypeId:=206
def x16z:TypeId:=208
def x170:TypeId:=210
def x171:TypeId:=213
def x10p:TypeId:=214
def x172:TypeId:=219
def xot:TypeId:=221
def x173:TypeId:=223
def xoy:TypeId:=225
def xp0:TypeId:=227
def xp2:TypeId:=229
def x10m:TypeId:=230
def x10n:TypeId:=231
def x22:TypeId:=232
def x174:TypeId:=241
def x175:TypeId:=243
def x176:TypeId:=247
def x10l:TypeId:=249
def x23:TypeId:=251
def x2:TypeId:=265
def xq1:TypeId:=269
def x9:TypeId:=273
def xa6:TypeId:=276
def x4:TypeId:=295
def x177:TypeId:=300
def x178:TypeId:=302
def x1b:TypeId:=307
def x10y:TypeId:=314
def x179:TypeId:=316
def x17a:TypeId:=319
def x17b:TypeId:=322
noncomputable def x18x:List AV:=(zeroCells Tryz.prog x17r).getD []
noncomputable def xmt:List AV:=(zeroCells Tryz.prog x9m).getD []
noncomputable def x10w:List AV:=(zeroCells Tryz.prog x1).getD []
noncomputable def xk:List AV:=(zeroCells Tryz.prog x0).getD []
noncomputable def xlp:List AV:=(zeroCells Tryz.prog xum).getD []
noncomputable def x81:List AV:=(zeroCells Tryz.prog x16p).getD []
noncomputable def xom:List AV:=(zeroCells Tryz.prog x6).getD []
noncomputable def x8b:List AV:=(zeroCells Tryz.prog x36).getD []
noncomputable def x1q:List AV:=(zeroCells Tryz.prog x80).getD []
noncomputable def x2l:List AV:=(zeroCells Tryz.prog xl6).getD []
noncomputable def xj:List AV:=(zeroCells Tryz.prog x16q).getD []
noncomputable def xbc:List AV:=(zeroCells Tryz.prog x16r).getD []
noncomputable def xr:List AV:=(zeroCells Tryz.prog x16s).getD []
noncomputable def x49:List AV:=(zeroCells Tryz.prog x16t).getD []
noncomputable def x48:List AV:=(zeroCells Tryz.prog x16u).getD []
noncomputable def xm7:List AV:=(zeroCells Tryz.prog x16v).getD []
noncomputable def xp:List AV:=(zeroCells Tryz.prog xun).getD []
noncomputable def x10f:List AV:=(zeroCells Tryz.prog x16w).getD []
noncomputable def x18:List AV:=(zeroCells Tryz.prog x25).getD []
noncomputable def xo:List AV:=(zeroCells Tryz.prog x37).getD []
noncomputable def x4a:List AV:=(zeroCells Tryz.prog xuo).getD []
noncomputable def xl:List AV:=(zeroCells Tryz.prog xup).getD []
noncomputable def xq:List AV:=(zeroCells Tryz.prog xl7).getD []
noncomputable def xm9:List AV:=(zeroCells Tryz.prog xuq).getD []
noncomputable def x10r:List AV:=(zeroCells Tryz.prog xq8).getD []
noncomputable def x2w:List AV:=(zeroCells Tryz.prog xl8).getD []
noncomputable def x4g:List AV:=(zeroCells Tryz.prog x16x).getD []
noncomputable def x10i:List AV:=(zeroCells Tryz.prog x16y).getD []
noncomputable def x9k:List AV:=(zeroCells Tryz.prog xur).getD []
noncomputable def xm:List AV:=(zeroCells Tryz.prog xus).getD []
noncomputable def x10g:List AV:=(zeroCells Tryz.prog x16z).getD []
noncomputable def x21:List AV:=(zeroCells Tryz.prog x170).getD []
noncomputable def xo7:List AV:=(zeroCells Tryz.prog x171).getD []
noncomputable def xa2:List AV:=(zeroCells Tryz.prog x172).getD []
noncomputable def xos:List AV:=(zeroCells Tryz.prog xot).getD []
noncomputable def xa3:List AV:=(zeroCells Tryz.prog x173).getD []
noncomputable def xox:List AV:=(zeroCells Tryz.prog xoy).getD []
noncomputable def xoz:List AV:=(zeroCells Tryz.prog xp0).getD []
noncomputable def xp1:List AV:=(zeroCells Tryz.prog xp2).getD []
noncomputable def x10j:List AV:=(zeroCells Tryz.prog x174).getD []
noncomputable def x10k:List AV:=(zeroCells Tryz.prog x175).getD []
noncomputable def xgc:List AV:=(zeroCells Tryz.prog x176).getD []
noncomputable def xa8:List AV:=(zeroCells Tryz.prog x177).getD []
noncomputable def x10t:List AV:=(zeroCells Tryz.prog x178).getD []
noncomputable def x10v:List AV:=(zeroCells Tryz.prog x1b).getD []
noncomputable def x10x:List AV:=(zeroCells Tryz.prog x179).getD []
noncomputable def x10z:List AV:=(zeroCells Tryz.prog x17a).getD []
noncomputable def x110:List AV:=(zeroCells Tryz.prog x17b).getD []
end Go.Ix
