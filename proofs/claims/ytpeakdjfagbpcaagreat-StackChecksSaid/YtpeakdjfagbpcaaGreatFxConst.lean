import Derived.Test.YtpeakdjfagbpcaaGreatFxDefs
import Derived.Test.YtpeakdjfagbpcaaGreatProg
namespace Go.Ix
open Go.Proofs
def pol:Pol:=fun f t=>match f with
 |19=>if t=8 then 1 else if t=11 then 1 else 0
 |29=>if t=18 then 1 else if t=53 then 2 else 0
 |41=>if t=29 then 1 else 0
 |54=>if t=52 then 2 else 0
 |57=>if t=8 then 1 else 0
 |75=>if t=35 then 2 else 0
 |76=>if t=12 then 1 else if t=27 then 2 else 0
 |90=>if t=7 then 2 else 0
 |97=>if t=18 then 1 else if t=32 then 3 else 0
 |107=>if t=23 then 2 else if t=28 then 1 else if t=42 then 2 else if t=49 then 2 else 0
 |118=>if t=42 then 2 else 0
 |124=>if t=16 then 2 else 0
 |126=>if t=16 then 2 else 0
 |129=>if t=7 then 1 else if t=17 then 4 else if t=25 then 2 else 0
 |130=>if t=140 then 1 else 0
 |132=>if t=12 then 1 else if t=17 then 2 else if t=22 then 2 else 0
 |134=>if t=8 then 2 else 0
 |136=>if t=10 then 2 else 0
 |139=>if t=22 then 2 else 0
 |142=>if t=38 then 2 else 0
 |143=>if t=16 then 2 else 0
 |146=>if t=9 then 4 else 0
 |147=>if t=12 then 1 else if t=40 then 2 else 0
 |148=>if t=51 then 2 else 0
 |152=>if t=15 then 4 else 0
 |153=>if t=52 then 2 else 0
 |156=>if t=18 then 2 else if t=27 then 2 else if t=43 then 2 else if t=60 then 2 else 0
 |157=>if t=27 then 2 else if t=33 then 2 else if t=39 then 2 else if t=46 then 2 else if t=54 then 2 else if t=72 then 2 else if t=92 then 2 else if t=99 then 2 else if t=121 then 2 else if t=132 then 2 else 0
 |162=>if t=19 then 1 else if t=86 then 2 else 0
 |165=>if t=18 then 2 else 0
 |166=>if t=32 then 2 else 0
 |167=>if t=49 then 2 else if t=101 then 2 else if t=169 then 2 else if t=191 then 2 else if t=205 then 2 else if t=219 then 2 else 0
 |169=>if t=26 then 2 else if t=55 then 2 else 0
 |170=>if t=36 then 2 else 0
 |171=>if t=37 then 2 else if t=40 then 2 else if t=43 then 2 else if t=48 then 2 else 0
 |181=>if t=31 then 2 else if t=46 then 2 else if t=57 then 2 else 0
 |185=>if t=14 then 2 else 0
 |186=>if t=16 then 2 else if t=24 then 2 else if t=32 then 2 else 0
 |188=>if t=72 then 2 else 0
 |_=>0
def NN:Nat:=1048576
abbrev O2:=Option (AV×Mem)
def xgn:FuncId:=3
def xgo:FuncId:=4
def xgp:FuncId:=9
def x8o:FuncId:=11
def xgr:FuncId:=13
def x1w:FuncId:=16
def x2s:FuncId:=17
def x75:FuncId:=18
def xy:FuncId:=19
def x1x:FuncId:=20
def xg:FuncId:=21
def xbk:FuncId:=22
def x2t:FuncId:=23
def xbl:FuncId:=24
def x3h:FuncId:=25
def xbm:FuncId:=26
def xbn:FuncId:=27
def x5v:FuncId:=28
def xgx:FuncId:=29
def x3i:FuncId:=30
def x1h:FuncId:=31
def x5w:FuncId:=32
def xh0:FuncId:=33
def xbo:FuncId:=37
def x5x:FuncId:=38
def xbp:FuncId:=40
def x3j:FuncId:=41
def x3k:FuncId:=42
def xbq:FuncId:=45
def x8q:FuncId:=47
def x8r:FuncId:=48
def xbr:FuncId:=49
def xbs:FuncId:=50
def x76:FuncId:=51
def x5y:FuncId:=52
def x77:FuncId:=53
def x3l:FuncId:=54
def x2u:FuncId:=56
def x3m:FuncId:=57
def xbt:FuncId:=58
def x2v:FuncId:=60
def x78:FuncId:=63
def x8s:FuncId:=70
def x79:FuncId:=71
def x1p:FuncId:=72
def xz:FuncId:=73
def x1y:FuncId:=74
def x3n:FuncId:=75
def xbu:FuncId:=76
def x2w:FuncId:=77
def x3o:FuncId:=78
def x3p:FuncId:=79
def x1q:FuncId:=80
def x7a:FuncId:=81
def x2x:FuncId:=82
def x2y:FuncId:=83
def x3q:FuncId:=84
def xbv:FuncId:=85
def xbw:FuncId:=86
def x8t:FuncId:=87
def x7b:FuncId:=88
def x1i:FuncId:=89
def x1j:FuncId:=90
def x1z:FuncId:=92
def xby:FuncId:=93
def x7c:FuncId:=94
def xbz:FuncId:=97
def x5z:FuncId:=98
def x60:FuncId:=99
def x3r:FuncId:=100
def x61:FuncId:=101
def xc0:FuncId:=103
def x62:FuncId:=104
def x63:FuncId:=105
def x3s:FuncId:=106
def x3t:FuncId:=107
def x7d:FuncId:=108
def xc1:FuncId:=111
def x64:FuncId:=112
def x65:FuncId:=113
def x66:FuncId:=117
def x1k:FuncId:=118
def x7e:FuncId:=119
def x7f:FuncId:=120
def x7g:FuncId:=121
def xu:FuncId:=122
def x7h:FuncId:=123
def xc2:FuncId:=124
def x3u:FuncId:=125
def x5u:FuncId:=126
def x7i:FuncId:=127
def x3v:FuncId:=128
def xc3:FuncId:=129
def x8u:FuncId:=132
def xc4:FuncId:=133
def x7j:FuncId:=134
def x67:FuncId:=135
def x7k:FuncId:=136
def x7l:FuncId:=137
def x3w:FuncId:=142
def x7m:FuncId:=143
def x68:FuncId:=144
def x69:FuncId:=145
def xc5:FuncId:=146
def x8v:FuncId:=147
def xbf:FuncId:=148
def xc6:FuncId:=150
def xbi:FuncId:=151
def xc7:FuncId:=152
def xc8:FuncId:=153
def xbh:FuncId:=154
def xbg:FuncId:=155
def x8w:FuncId:=156
def x6a:FuncId:=157
def x6b:FuncId:=158
def x1o:FuncId:=159
def x2z:FuncId:=160
def x7n:FuncId:=161
def x5t:FuncId:=162
def x8x:FuncId:=163
def xbb:FuncId:=164
def xbd:FuncId:=165
def x6c:FuncId:=166
def x6d:FuncId:=167
def x7o:FuncId:=168
def xc9:FuncId:=169
def xca:FuncId:=170
def xcb:FuncId:=171
def xcc:FuncId:=172
def xcd:FuncId:=173
def xh:FuncId:=174
def xce:FuncId:=175
def xcf:FuncId:=176
def xcg:FuncId:=177
def x7p:FuncId:=178
def xbc:FuncId:=179
def xch:FuncId:=180
def xci:FuncId:=181
def x8y:FuncId:=182
def xcj:FuncId:=183
def xck:FuncId:=184
def x7q:FuncId:=185
def x8z:FuncId:=186
def x6e:FuncId:=187
def xba:FuncId:=188
def xcl:FuncId:=189
def xbe:FuncId:=190
def x7r:FuncId:=191
def x7s:FuncId:=192
def x2ir:TypeId:=3
def x90:TypeId:=4
def xa:TypeId:=5
def xm:TypeId:=9
def x3:TypeId:=22
def x4:TypeId:=23
def x5s:TypeId:=25
def x2:TypeId:=26
def x8n:TypeId:=28
def xc:TypeId:=41
def x74:TypeId:=44
def xa8:TypeId:=60
def x1l:TypeId:=67
def xwm:TypeId:=69
def x1d:TypeId:=80
def xwn:TypeId:=96
def x1jz:TypeId:=120
def xkl:TypeId:=121
def xwo:TypeId:=137
def x1k0:TypeId:=152
def x1k1:TypeId:=161
def xwp:TypeId:=170
def x1k2:TypeId:=178
def x1k3:TypeId:=180
def xlk:TypeId:=181
def xa3:TypeId:=192
def xlc:TypeId:=194
def x9:TypeId:=208
def xwq:TypeId:=211
def x1k4:TypeId:=215
def x1a:TypeId:=226
def x8:TypeId:=228
def x5p:TypeId:=233
noncomputable def x2ip:List AV:=(zeroCells Tryz.prog x2ir).getD []
noncomputable def x7v:List AV:=(zeroCells Tryz.prog x90).getD []
noncomputable def x9h:List AV:=(zeroCells Tryz.prog x5s).getD []
noncomputable def x4t:List AV:=(zeroCells Tryz.prog x2).getD []
noncomputable def x3x:List AV:=(zeroCells Tryz.prog x8n).getD []
noncomputable def xd:List AV:=(zeroCells Tryz.prog xc).getD []
noncomputable def xv:List AV:=(zeroCells Tryz.prog x74).getD []
noncomputable def xu4:List AV:=(zeroCells Tryz.prog xa8).getD []
noncomputable def xp:List AV:=(zeroCells Tryz.prog xwm).getD []
noncomputable def x16:List AV:=(zeroCells Tryz.prog xwn).getD []
noncomputable def x30:List AV:=(zeroCells Tryz.prog x1jz).getD []
noncomputable def x1fr:List AV:=(zeroCells Tryz.prog xkl).getD []
noncomputable def x10:List AV:=(zeroCells Tryz.prog xwo).getD []
noncomputable def xth:List AV:=(zeroCells Tryz.prog x1k0).getD []
noncomputable def xkb:List AV:=(zeroCells Tryz.prog x1k1).getD []
noncomputable def x7x:List AV:=(zeroCells Tryz.prog xwp).getD []
noncomputable def xty:List AV:=(zeroCells Tryz.prog x1k2).getD []
noncomputable def x1fs:List AV:=(zeroCells Tryz.prog x1k3).getD []
noncomputable def xab:List AV:=(zeroCells Tryz.prog xwq).getD []
noncomputable def xam:List AV:=(zeroCells Tryz.prog x1k4).getD []
noncomputable def x1ft:List AV:=(zeroCells Tryz.prog x5p).getD []
end Go.Ix
