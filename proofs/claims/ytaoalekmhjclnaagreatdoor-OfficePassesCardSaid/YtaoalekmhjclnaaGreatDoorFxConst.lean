import Derived.Test.YtaoalekmhjclnaaGreatDoorFxDefs
import Derived.Test.YtaoalekmhjclnaaGreatDoorProg
namespace Go.Ix
open Go.Proofs
def pol:Pol:=λf t=>match f with
 |8=>if t=41 then 7 else if t=87 then 7 else if t=118 then 7 else 0
 |10=>if t=16 then 2 else if t=22 then 7 else 0
 |17=>if t=25 then 7 else 0
 |21=>if t=76 then 2 else 0
 |22=>if t=32 then 7 else 0
 |26=>if t=75 then 2 else 0
 |33=>if t=28 then 7 else 0
 |38=>if t=17 then 2 else 0
 |46=>if t=11 then 7 else 0
 |49=>if t=30 then 7 else 0
 |50=>if t=29 then 7 else 0
 |51=>if t=35 then 7 else 0
 |58=>if t=8 then 2 else 0
 |65=>if t=31 then 7 else 0
 |69=>if t=20 then 2 else if t=30 then 2 else 0
 |79=>if t=16 then 2 else 0
 |81=>if t=38 then 2 else 0
 |87=>if t=18 then 2 else if t=27 then 2 else if t=43 then 2 else if t=60 then 2 else 0
 |88=>if t=11 then 7 else 0
 |93=>if t=23 then 7 else if t=64 then 2 else if t=77 then 2 else if t=87 then 6 else 0
 |106=>if t=32 then 2 else 0
 |107=>if t=49 then 2 else if t=101 then 2 else if t=169 then 2 else if t=191 then 2 else if t=205 then 2 else if t=219 then 2 else 0
 |108=>if t=16 then 2 else 0
 |114=>if t=16 then 2 else 0
 |119=>if t=68 then 8 else if t=98 then 2 else 0
 |120=>if t=49 then 2 else if t=57 then 2 else 0
 |126=>if t=31 then 2 else if t=46 then 2 else if t=57 then 2 else 0
 |130=>if t=35 then 2 else 0
 |131=>if t=12 then 1 else if t=27 then 2 else 0
 |133=>if t=18 then 2 else 0
 |135=>if t=20 then 2 else 0
 |136=>if t=14 then 2 else 0
 |137=>if t=18 then 2 else 0
 |149=>if t=7 then 2 else 0
 |153=>if t=23 then 2 else if t=28 then 1 else if t=42 then 2 else if t=49 then 2 else 0
 |154=>if t=42 then 2 else 0
 |158=>if t=1000000 then 2 else 0
 |159=>if t=1000000 then 1 else 0
 |169=>if t=16 then 2 else 0
 |170=>if t=8 then 2 else 0
 |173=>if t=10 then 2 else 0
 |174=>if t=38 then 2 else 0
 |185=>if t=18 then 2 else if t=27 then 2 else if t=43 then 2 else if t=60 then 2 else 0
 |187=>if t=27 then 2 else if t=33 then 2 else if t=39 then 2 else if t=46 then 2 else if t=54 then 2 else if t=72 then 2 else if t=92 then 2 else if t=99 then 2 else if t=121 then 2 else if t=132 then 2 else 0
 |199=>if t=7 then 7 else 0
 |201=>if t=32 then 2 else 0
 |202=>if t=49 then 2 else if t=101 then 2 else if t=169 then 2 else if t=191 then 2 else if t=205 then 2 else if t=219 then 2 else 0
 |204=>if t=26 then 2 else if t=55 then 2 else 0
 |205=>if t=36 then 2 else 0
 |206=>if t=37 then 2 else if t=40 then 2 else if t=43 then 2 else if t=48 then 2 else 0
 |222=>if t=16 then 2 else 0
 |223=>if t=31 then 2 else if t=46 then 2 else if t=57 then 2 else 0
 |227=>if t=14 then 2 else 0
 |228=>if t=16 then 2 else if t=24 then 2 else if t=32 then 2 else 0
 |257=>if t=24 then 7 else if t=62 then 6 else 0
 |260=>if t=13 then 7 else if t=19 then 7 else if t=25 then 7 else if t=56 then 7 else if t=68 then 6 else 0
 |261=>if t=9 then 7 else 0
 |262=>if t=7 then 7 else 0
 |266=>if t=16 then 2 else 0
 |267=>if t=15 then 7 else if t=30 then 8 else 0
 |269=>if t=14 then 7 else if t=20 then 7 else if t=53 then 7 else if t=60 then 6 else 0
 |270=>if t=7 then 7 else 0
 |273=>if t=16 then 2 else 0
 |274=>if t=12 then 7 else if t=39 then 6 else if t=51 then 2 else 0
 |278=>if t=12 then 7 else if t=40 then 8 else if t=42 then 6 else 0
 |279=>if t=10 then 2 else if t=28 then 2 else 0
 |_=>0
def NN:Nat:=18446744073709551616
abbrev O2:=Option (AV×Mem)
abbrev FnT:=x15d->FHs->List AV->Mem->O2
abbrev x17w:=AV->AV->AV->AV->AV->AV->AV->AV->AV->AV->Mem->Nat->O2
abbrev x1as:=AV->AV->AV->AV->AV->AV->AV->AV->AV->AV->AV->Mem->Nat->O2
abbrev x17o:=AV->AV->Mem->Nat->O2
abbrev x15t:=AV->AV->AV->Mem->Nat->O2
abbrev x15h:=AV->AV->AV->AV->Mem->Nat->O2
abbrev x15l:=AV->AV->AV->AV->AV->Mem->Nat->O2
abbrev x15q:=AV->AV->AV->AV->AV->AV->Mem->Nat->O2
abbrev x165:=AV->AV->AV->AV->AV->AV->AV->Mem->Nat->O2
abbrev x19n:=AV->AV->AV->AV->AV->AV->AV->AV->Mem->Nat->O2
abbrev x17b:=AV->AV->AV->AV->AV->AV->AV->AV->AV->Mem->Nat->O2
abbrev FxKtm2:=x15d->FHs->Nat->AV->AV->Mem->Nat->Option Mem
abbrev FxKtm4:=x15d->FHs->Nat->AV->AV->AV->AV->Mem->Nat->Option Mem
abbrev FxKtm6:=x15d->FHs->Nat->AV->AV->AV->AV->AV->AV->Mem->Nat->Option Mem
abbrev x1bm:=x15d->FHs->Nat->AV->AV->AV->AV->AV->AV->AV->Mem->Nat->Option Mem
abbrev FxKtm8:=x15d->FHs->Nat->AV->AV->AV->AV->AV->AV->AV->AV->Mem->Nat->Option Mem
abbrev x16f:=x15d->FHs->Nat->Mem->Nat->O2
abbrev x15j:=x15d->FHs->Nat->AV->Mem->Nat->O2
abbrev FxKtr10:=x15d->FHs->Nat->AV->AV->AV->AV->AV->AV->AV->AV->AV->AV->Mem->Nat->O2
abbrev x15k:=x15d->FHs->Nat->AV->AV->Mem->Nat->O2
abbrev x15s:=x15d->FHs->Nat->AV->AV->AV->Mem->Nat->O2
abbrev x16g:=x15d->FHs->Nat->AV->AV->AV->AV->Mem->Nat->O2
abbrev x174:=x15d->FHs->Nat->AV->AV->AV->AV->AV->Mem->Nat->O2
abbrev x17x:=x15d->FHs->Nat->AV->AV->AV->AV->AV->AV->Mem->Nat->O2
abbrev x19m:=x15d->FHs->Nat->AV->AV->AV->AV->AV->AV->AV->Mem->Nat->O2
abbrev x1bn:=x15d->FHs->Nat->AV->AV->AV->AV->AV->AV->AV->AV->Mem->Nat->O2
abbrev x1bo:=x15d->FHs->Nat->AV->AV->AV->AV->AV->AV->AV->AV->AV->Mem->Nat->O2
def x2s:FuncId:=5
def x23:FuncId:=6
def x45:FuncId:=8
def x46:FuncId:=13
def x17:FuncId:=16
def x18:FuncId:=17
def xl:FuncId:=18
def xt:FuncId:=19
def x11:FuncId:=20
def x19:FuncId:=22
def x1a:FuncId:=23
def xu:FuncId:=26
def x1b:FuncId:=27
def x1c:FuncId:=28
def x1d:FuncId:=29
def x49:FuncId:=30
def x2t:FuncId:=31
def x2u:FuncId:=32
def x4a:FuncId:=33
def x4b:FuncId:=34
def x4c:FuncId:=35
def xc:FuncId:=36
def x24:FuncId:=37
def xh:FuncId:=38
def x4d:FuncId:=39
def x2v:FuncId:=40
def xv:FuncId:=41
def x25:FuncId:=42
def x4e:FuncId:=43
def x4f:FuncId:=44
def x4g:FuncId:=45
def x4h:FuncId:=46
def x4i:FuncId:=47
def xd:FuncId:=48
def xf:FuncId:=53
def x12:FuncId:=54
def xm:FuncId:=55
def xw:FuncId:=56
def x1e:FuncId:=57
def x26:FuncId:=60
def x1f:FuncId:=61
def xn:FuncId:=62
def x27:FuncId:=63
def x13:FuncId:=64
def x4j:FuncId:=65
def x4k:FuncId:=66
def x2w:FuncId:=67
def x2x:FuncId:=68
def x2y:FuncId:=69
def x4l:FuncId:=70
def x4m:FuncId:=71
def x4n:FuncId:=72
def x1g:FuncId:=73
def x2z:FuncId:=74
def x28:FuncId:=75
def x30:FuncId:=76
def xg:FuncId:=77
def x4o:FuncId:=78
def x4p:FuncId:=79
def x4q:FuncId:=80
def x4r:FuncId:=81
def x4s:FuncId:=82
def x4t:FuncId:=88
def x31:FuncId:=89
def x32:FuncId:=90
def x33:FuncId:=91
def x4u:FuncId:=92
def x4v:FuncId:=93
def x4w:FuncId:=94
def x34:FuncId:=95
def x4x:FuncId:=96
def x4y:FuncId:=97
def xx:FuncId:=98
def x1h:FuncId:=99
def x4z:FuncId:=100
def x50:FuncId:=101
def x51:FuncId:=102
def x52:FuncId:=108
def x53:FuncId:=109
def x54:FuncId:=110
def x55:FuncId:=111
def x35:FuncId:=112
def x14:FuncId:=113
def x56:FuncId:=114
def x57:FuncId:=115
def x36:FuncId:=116
def x1i:FuncId:=117
def x29:FuncId:=118
def x58:FuncId:=119
def x37:FuncId:=120
def x59:FuncId:=121
def x2a:FuncId:=122
def x5a:FuncId:=123
def x5b:FuncId:=124
def x5c:FuncId:=127
def xy:FuncId:=128
def x5d:FuncId:=129
def x38:FuncId:=130
def x5e:FuncId:=131
def x5f:FuncId:=132
def x5g:FuncId:=133
def x1j:FuncId:=134
def x5h:FuncId:=135
def x5i:FuncId:=136
def x5j:FuncId:=137
def x5k:FuncId:=138
def x5l:FuncId:=139
def x39:FuncId:=140
def x5m:FuncId:=141
def x5n:FuncId:=142
def x5o:FuncId:=143
def x5p:FuncId:=144
def x3a:FuncId:=145
def x5q:FuncId:=148
def x3b:FuncId:=149
def x5r:FuncId:=150
def x3c:FuncId:=151
def x5s:FuncId:=152
def x5t:FuncId:=153
def x5u:FuncId:=154
def x5v:FuncId:=155
def x3d:FuncId:=156
def x3e:FuncId:=157
def xys:FuncId:=158
def xe3:FuncId:=159
def x5w:FuncId:=160
def x3f:FuncId:=161
def x5x:FuncId:=162
def x5y:FuncId:=163
def x3g:FuncId:=164
def xnc:FuncId:=165
def x5z:FuncId:=166
def x60:FuncId:=167
def x61:FuncId:=168
def x44:FuncId:=169
def x62:FuncId:=170
def x63:FuncId:=171
def x3h:FuncId:=172
def x64:FuncId:=173
def x65:FuncId:=174
def x66:FuncId:=175
def x9t:FuncId:=176
def x9u:FuncId:=177
def x9v:FuncId:=178
def x67:FuncId:=179
def x68:FuncId:=180
def x69:FuncId:=181
def xyu:FuncId:=182
def x6a:FuncId:=183
def x6b:FuncId:=184
def x6c:FuncId:=185
def x3i:FuncId:=186
def x2b:FuncId:=187
def x3j:FuncId:=188
def x6d:FuncId:=189
def x6e:FuncId:=190
def x6f:FuncId:=191
def x6g:FuncId:=192
def x6h:FuncId:=193
def x6i:FuncId:=194
def x3k:FuncId:=195
def x6j:FuncId:=196
def xyw:FuncId:=197
def x6k:FuncId:=198
def x6l:FuncId:=199
def x6m:FuncId:=200
def x3l:FuncId:=201
def x1k:FuncId:=202
def x6n:FuncId:=203
def x6o:FuncId:=204
def x6p:FuncId:=205
def x6q:FuncId:=206
def x6r:FuncId:=207
def x6s:FuncId:=208
def xb:FuncId:=209
def x6t:FuncId:=210
def x6u:FuncId:=211
def x6v:FuncId:=212
def x3m:FuncId:=213
def x6w:FuncId:=214
def x1l:FuncId:=215
def x3n:FuncId:=216
def x6x:FuncId:=217
def x6y:FuncId:=218
def x6z:FuncId:=219
def x70:FuncId:=220
def x71:FuncId:=221
def x72:FuncId:=222
def x73:FuncId:=223
def x3o:FuncId:=224
def x74:FuncId:=225
def x75:FuncId:=226
def x2c:FuncId:=227
def x3p:FuncId:=228
def x3q:FuncId:=229
def xe:FuncId:=230
def x76:FuncId:=231
def x77:FuncId:=232
def x78:FuncId:=233
def x79:FuncId:=234
def x7a:FuncId:=235
def x2d:FuncId:=236
def x2e:FuncId:=237
def x7b:FuncId:=238
def x7c:FuncId:=239
def x43:TypeId:=2
def x15u:TypeId:=3
def x8t:TypeId:=4
def x1:TypeId:=5
def x0:TypeId:=9
def x5:TypeId:=21
def xa1:TypeId:=22
def x7h:TypeId:=23
def x7g:TypeId:=24
def xsv:TypeId:=26
def x14p:TypeId:=29
def x7:TypeId:=32
def x4:TypeId:=39
def x8:TypeId:=42
def xz:TypeId:=43
def x2q:TypeId:=45
def x7e:TypeId:=65
def x42:TypeId:=69
def xje:TypeId:=72
def x14q:TypeId:=77
def x3y:TypeId:=79
def x14r:TypeId:=81
def x14s:TypeId:=83
def x14t:TypeId:=85
def x14u:TypeId:=87
def xr:TypeId:=96
def xyl:TypeId:=97
def x14v:TypeId:=100
def xsw:TypeId:=102
def x14w:TypeId:=104
def x22:TypeId:=112
def x2r:TypeId:=115
def xsx:TypeId:=117
def xjf:TypeId:=132
def xsy:TypeId:=137
def xk2:TypeId:=145
def xke:TypeId:=146
def xog:TypeId:=148
def xjg:TypeId:=149
def x3w:TypeId:=151
def x14x:TypeId:=154
def x9:TypeId:=174
def x2p:TypeId:=184
def x14y:TypeId:=186
def xsz:TypeId:=188
def xt0:TypeId:=200
def x6:TypeId:=206
def x14z:TypeId:=208
def x150:TypeId:=210
def x151:TypeId:=213
def xyt:TypeId:=214
def x152:TypeId:=219
def xn1:TypeId:=221
def x153:TypeId:=223
def xn6:TypeId:=225
def xn8:TypeId:=227
def xna:TypeId:=229
def xyq:TypeId:=230
def xyr:TypeId:=231
def x1z:TypeId:=232
def x154:TypeId:=241
def x155:TypeId:=243
def x156:TypeId:=247
def xyp:TypeId:=249
def x20:TypeId:=251
def x2:TypeId:=265
def xo9:TypeId:=269
def xa:TypeId:=273
def x8y:TypeId:=276
def x3:TypeId:=295
def x157:TypeId:=300
def x158:TypeId:=302
def x16:TypeId:=307
def xz2:TypeId:=314
def x159:TypeId:=316
def x15a:TypeId:=319
def x15b:TypeId:=322
noncomputable def x16k:List AV:=(zeroCells Tryz.prog x15u).getD []
noncomputable def xl2:List AV:=(zeroCells Tryz.prog x8t).getD []
noncomputable def xz0:List AV:=(zeroCells Tryz.prog x1).getD []
noncomputable def xj:List AV:=(zeroCells Tryz.prog x0).getD []
noncomputable def xjy:List AV:=(zeroCells Tryz.prog xsv).getD []
noncomputable def x7f:List AV:=(zeroCells Tryz.prog x14p).getD []
noncomputable def xmv:List AV:=(zeroCells Tryz.prog x4).getD []
noncomputable def x7p:List AV:=(zeroCells Tryz.prog x2q).getD []
noncomputable def x1m:List AV:=(zeroCells Tryz.prog x7e).getD []
noncomputable def x2f:List AV:=(zeroCells Tryz.prog xje).getD []
noncomputable def xi:List AV:=(zeroCells Tryz.prog x14q).getD []
noncomputable def x9z:List AV:=(zeroCells Tryz.prog x14r).getD []
noncomputable def xq:List AV:=(zeroCells Tryz.prog x14s).getD []
noncomputable def x3s:List AV:=(zeroCells Tryz.prog x14t).getD []
noncomputable def x3r:List AV:=(zeroCells Tryz.prog x14u).getD []
noncomputable def xkg:List AV:=(zeroCells Tryz.prog x14v).getD []
noncomputable def xo:List AV:=(zeroCells Tryz.prog xsw).getD []
noncomputable def xyj:List AV:=(zeroCells Tryz.prog x14w).getD []
noncomputable def x10:List AV:=(zeroCells Tryz.prog x22).getD []
noncomputable def x2h:List AV:=(zeroCells Tryz.prog x2r).getD []
noncomputable def x2i:List AV:=(zeroCells Tryz.prog xsx).getD []
noncomputable def xp:List AV:=(zeroCells Tryz.prog xjf).getD []
noncomputable def xki:List AV:=(zeroCells Tryz.prog xsy).getD []
noncomputable def xyv:List AV:=(zeroCells Tryz.prog xog).getD []
noncomputable def x2o:List AV:=(zeroCells Tryz.prog xjg).getD []
noncomputable def x3x:List AV:=(zeroCells Tryz.prog x14x).getD []
noncomputable def xym:List AV:=(zeroCells Tryz.prog x14y).getD []
noncomputable def x8r:List AV:=(zeroCells Tryz.prog xsz).getD []
noncomputable def xk:List AV:=(zeroCells Tryz.prog xt0).getD []
noncomputable def xyk:List AV:=(zeroCells Tryz.prog x14z).getD []
noncomputable def x1y:List AV:=(zeroCells Tryz.prog x150).getD []
noncomputable def xmg:List AV:=(zeroCells Tryz.prog x151).getD []
noncomputable def x8w:List AV:=(zeroCells Tryz.prog x152).getD []
noncomputable def xn0:List AV:=(zeroCells Tryz.prog xn1).getD []
noncomputable def x8x:List AV:=(zeroCells Tryz.prog x153).getD []
noncomputable def xn5:List AV:=(zeroCells Tryz.prog xn6).getD []
noncomputable def xn7:List AV:=(zeroCells Tryz.prog xn8).getD []
noncomputable def xn9:List AV:=(zeroCells Tryz.prog xna).getD []
noncomputable def xyn:List AV:=(zeroCells Tryz.prog x154).getD []
noncomputable def xyo:List AV:=(zeroCells Tryz.prog x155).getD []
noncomputable def xek:List AV:=(zeroCells Tryz.prog x156).getD []
noncomputable def x90:List AV:=(zeroCells Tryz.prog x157).getD []
noncomputable def xyx:List AV:=(zeroCells Tryz.prog x158).getD []
noncomputable def xyz:List AV:=(zeroCells Tryz.prog x16).getD []
noncomputable def xz1:List AV:=(zeroCells Tryz.prog x159).getD []
noncomputable def xz3:List AV:=(zeroCells Tryz.prog x15a).getD []
noncomputable def xz4:List AV:=(zeroCells Tryz.prog x15b).getD []
end Go.Ix
