import Derived.Test.YtpeakdjfagbpcaaGreatFxDefs
import Derived.Test.YtpeakdjfagbpcaaGreatProg
namespace Go.Ix
open Go.Proofs
def pol:Pol:=fun f t=>match f with
 |19=>if t=8 then 1 else if t=11 then 1 else 0
 |29=>if t=18 then 1 else if t=53 then 2 else 0
 |41=>if t=29 then 1 else 0
 |54=>if t=52 then 2 else 0
 |57=>if t=8 then 1 else 0
 |75=>if t=35 then 2 else 0
 |76=>if t=12 then 1 else if t=27 then 2 else 0
 |90=>if t=7 then 2 else 0
 |97=>if t=18 then 1 else if t=32 then 3 else 0
 |107=>if t=23 then 2 else if t=28 then 1 else if t=42 then 2 else if t=49 then 2 else 0
 |118=>if t=42 then 2 else 0
 |124=>if t=16 then 2 else 0
 |126=>if t=16 then 2 else 0
 |129=>if t=7 then 1 else if t=17 then 4 else if t=25 then 2 else 0
 |130=>if t=140 then 1 else 0
 |132=>if t=12 then 1 else if t=17 then 2 else if t=22 then 2 else 0
 |134=>if t=8 then 2 else 0
 |136=>if t=10 then 2 else 0
 |139=>if t=22 then 2 else 0
 |142=>if t=38 then 2 else 0
 |143=>if t=16 then 2 else 0
 |146=>if t=9 then 4 else 0
 |147=>if t=12 then 1 else if t=40 then 2 else 0
 |148=>if t=51 then 2 else 0
 |152=>if t=15 then 4 else 0
 |153=>if t=52 then 2 else 0
 |156=>if t=18 then 2 else if t=27 then 2 else if t=43 then 2 else if t=60 then 2 else 0
 |157=>if t=27 then 2 else if t=33 then 2 else if t=39 then 2 else if t=46 then 2 else if t=54 then 2 else if t=72 then 2 else if t=92 then 2 else if t=99 then 2 else if t=121 then 2 else if t=132 then 2 else 0
 |162=>if t=19 then 1 else if t=86 then 2 else 0
 |165=>if t=18 then 2 else 0
 |166=>if t=32 then 2 else 0
 |167=>if t=49 then 2 else if t=101 then 2 else if t=169 then 2 else if t=191 then 2 else if t=205 then 2 else if t=219 then 2 else 0
 |169=>if t=26 then 2 else if t=55 then 2 else 0
 |170=>if t=36 then 2 else 0
 |171=>if t=37 then 2 else if t=40 then 2 else if t=43 then 2 else if t=48 then 2 else 0
 |181=>if t=31 then 2 else if t=46 then 2 else if t=57 then 2 else 0
 |185=>if t=14 then 2 else 0
 |186=>if t=16 then 2 else if t=24 then 2 else if t=32 then 2 else 0
 |188=>if t=72 then 2 else 0
 |_=>0
def NN:Nat:=1048576
abbrev O2:=Option (AV×Mem)
def x86:FuncId:=3
def xfo:FuncId:=4
def x5a:FuncId:=16
def x5b:FuncId:=17
def x36:FuncId:=18
def x5c:FuncId:=19
def x37:FuncId:=20
def xq:FuncId:=21
def x5d:FuncId:=22
def x1j:FuncId:=23
def xax:FuncId:=24
def x38:FuncId:=25
def xay:FuncId:=26
def xaz:FuncId:=27
def x6o:FuncId:=28
def xfy:FuncId:=29
def x5e:FuncId:=30
def x39:FuncId:=31
def x6p:FuncId:=32
def xg2:FuncId:=33
def xb0:FuncId:=37
def xb1:FuncId:=40
def x3a:FuncId:=42
def x5f:FuncId:=45
def xg4:FuncId:=47
def xg5:FuncId:=49
def xb2:FuncId:=50
def xg6:FuncId:=53
def x3b:FuncId:=54
def x2n:FuncId:=56
def x5g:FuncId:=60
def x6q:FuncId:=63
def x87:FuncId:=70
def x6r:FuncId:=71
def x1x:FuncId:=72
def xz:FuncId:=73
def x3c:FuncId:=74
def x3d:FuncId:=75
def x5h:FuncId:=76
def x5i:FuncId:=77
def x3e:FuncId:=78
def x3f:FuncId:=79
def x1y:FuncId:=80
def x6s:FuncId:=81
def x2o:FuncId:=82
def x2p:FuncId:=83
def x3g:FuncId:=84
def xb3:FuncId:=85
def xb4:FuncId:=86
def x88:FuncId:=87
def x6t:FuncId:=88
def x1e:FuncId:=89
def x1z:FuncId:=90
def x89:FuncId:=92
def xb5:FuncId:=93
def xgr:FuncId:=94
def xb6:FuncId:=97
def xgs:FuncId:=99
def x5j:FuncId:=100
def x5k:FuncId:=103
def x5l:FuncId:=104
def x5m:FuncId:=105
def x3h:FuncId:=106
def x3i:FuncId:=107
def xgz:FuncId:=108
def x5n:FuncId:=112
def x5o:FuncId:=113
def x5p:FuncId:=117
def x1f:FuncId:=118
def x6u:FuncId:=119
def x6v:FuncId:=120
def x6w:FuncId:=121
def xv:FuncId:=122
def x6x:FuncId:=123
def xb7:FuncId:=124
def x3j:FuncId:=125
def x59:FuncId:=126
def xb8:FuncId:=127
def x6y:FuncId:=128
def xb9:FuncId:=129
def x8a:FuncId:=132
def xba:FuncId:=133
def x6z:FuncId:=134
def x5q:FuncId:=135
def x70:FuncId:=136
def xbb:FuncId:=137
def x3k:FuncId:=142
def x71:FuncId:=143
def xbc:FuncId:=144
def xbd:FuncId:=145
def xbe:FuncId:=146
def x8b:FuncId:=147
def xat:FuncId:=148
def xbf:FuncId:=150
def xaw:FuncId:=151
def xbg:FuncId:=152
def xbh:FuncId:=153
def xav:FuncId:=154
def xau:FuncId:=155
def x8c:FuncId:=156
def x5r:FuncId:=157
def x5s:FuncId:=158
def x2m:FuncId:=159
def xbi:FuncId:=160
def xbj:FuncId:=161
def x58:FuncId:=162
def x8d:FuncId:=163
def xap:FuncId:=164
def xar:FuncId:=165
def x5t:FuncId:=166
def x5u:FuncId:=167
def x72:FuncId:=168
def xbk:FuncId:=169
def xbl:FuncId:=170
def xbm:FuncId:=171
def xbn:FuncId:=172
def xbo:FuncId:=173
def xi:FuncId:=174
def xbp:FuncId:=175
def xbq:FuncId:=176
def xbr:FuncId:=177
def x73:FuncId:=178
def xaq:FuncId:=179
def xbs:FuncId:=180
def xbt:FuncId:=181
def x8e:FuncId:=182
def xbu:FuncId:=183
def xbv:FuncId:=184
def x74:FuncId:=185
def x8f:FuncId:=186
def x5v:FuncId:=187
def xao:FuncId:=188
def xbw:FuncId:=189
def xas:FuncId:=190
def x75:FuncId:=191
def x76:FuncId:=192
def x2d3:TypeId:=3
def x77:TypeId:=4
def xc:TypeId:=5
def xn:TypeId:=9
def x4:TypeId:=22
def x3:TypeId:=23
def x57:TypeId:=25
def x2:TypeId:=26
def x85:TypeId:=28
def xe:TypeId:=41
def x6n:TypeId:=44
def x9l:TypeId:=60
def x1p:TypeId:=67
def xud:TypeId:=69
def x44:TypeId:=80
def xue:TypeId:=96
def x1g9:TypeId:=120
def xj1:TypeId:=121
def x1ga:TypeId:=137
def x1gb:TypeId:=152
def x1gc:TypeId:=161
def xuf:TypeId:=170
def x1gd:TypeId:=178
def x1ge:TypeId:=180
def xjt:TypeId:=181
def x9e:TypeId:=192
def xjm:TypeId:=194
def x9:TypeId:=208
def xug:TypeId:=211
def x1gf:TypeId:=215
def x18:TypeId:=226
def x8:TypeId:=228
def x54:TypeId:=233
noncomputable def x2d1:List AV:=(zeroCells Tryz.prog x2d3).getD []
noncomputable def x7d:List AV:=(zeroCells Tryz.prog x77).getD []
noncomputable def x8r:List AV:=(zeroCells Tryz.prog x57).getD []
noncomputable def x4d:List AV:=(zeroCells Tryz.prog x2).getD []
noncomputable def x8i:List AV:=(zeroCells Tryz.prog x85).getD []
noncomputable def xf:List AV:=(zeroCells Tryz.prog xe).getD []
noncomputable def xw:List AV:=(zeroCells Tryz.prog x6n).getD []
noncomputable def xrp:List AV:=(zeroCells Tryz.prog x9l).getD []
noncomputable def x2s:List AV:=(zeroCells Tryz.prog xud).getD []
noncomputable def x1g:List AV:=(zeroCells Tryz.prog xue).getD []
noncomputable def x3r:List AV:=(zeroCells Tryz.prog x1g9).getD []
noncomputable def x1ce:List AV:=(zeroCells Tryz.prog xj1).getD []
noncomputable def x1o:List AV:=(zeroCells Tryz.prog x1ga).getD []
noncomputable def xqz:List AV:=(zeroCells Tryz.prog x1gb).getD []
noncomputable def xis:List AV:=(zeroCells Tryz.prog x1gc).getD []
noncomputable def x96:List AV:=(zeroCells Tryz.prog xuf).getD []
noncomputable def xrh:List AV:=(zeroCells Tryz.prog x1gd).getD []
noncomputable def x1cf:List AV:=(zeroCells Tryz.prog x1ge).getD []
noncomputable def x9p:List AV:=(zeroCells Tryz.prog xug).getD []
noncomputable def xa0:List AV:=(zeroCells Tryz.prog x1gf).getD []
noncomputable def x1cg:List AV:=(zeroCells Tryz.prog x54).getD []
end Go.Ix
