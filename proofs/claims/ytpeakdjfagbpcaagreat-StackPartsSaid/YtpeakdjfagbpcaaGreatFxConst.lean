import Derived.Test.YtpeakdjfagbpcaaGreatFxDefs
import Derived.Test.YtpeakdjfagbpcaaGreatProg
namespace Go.Ix
open Go.Proofs
def pol:Pol:=fun f t=>match f with
 |19=>if t=8 then 1 else if t=11 then 1 else 0
 |29=>if t=18 then 1 else if t=53 then 2 else 0
 |41=>if t=29 then 1 else 0
 |54=>if t=52 then 2 else 0
 |57=>if t=8 then 1 else 0
 |75=>if t=35 then 2 else 0
 |76=>if t=12 then 1 else if t=27 then 2 else 0
 |90=>if t=7 then 2 else 0
 |97=>if t=18 then 1 else if t=32 then 3 else 0
 |107=>if t=23 then 2 else if t=28 then 1 else if t=42 then 2 else if t=49 then 2 else 0
 |118=>if t=42 then 2 else 0
 |124=>if t=16 then 2 else 0
 |126=>if t=16 then 2 else 0
 |129=>if t=7 then 1 else if t=17 then 4 else if t=25 then 2 else 0
 |130=>if t=140 then 1 else 0
 |132=>if t=12 then 1 else if t=17 then 2 else if t=22 then 2 else 0
 |134=>if t=8 then 2 else 0
 |136=>if t=10 then 2 else 0
 |139=>if t=22 then 2 else 0
 |142=>if t=38 then 2 else 0
 |143=>if t=16 then 2 else 0
 |146=>if t=9 then 4 else 0
 |147=>if t=12 then 1 else if t=40 then 2 else 0
 |148=>if t=51 then 2 else 0
 |152=>if t=15 then 4 else 0
 |153=>if t=52 then 2 else 0
 |156=>if t=18 then 2 else if t=27 then 2 else if t=43 then 2 else if t=60 then 2 else 0
 |157=>if t=27 then 2 else if t=33 then 2 else if t=39 then 2 else if t=46 then 2 else if t=54 then 2 else if t=72 then 2 else if t=92 then 2 else if t=99 then 2 else if t=121 then 2 else if t=132 then 2 else 0
 |162=>if t=19 then 1 else if t=86 then 2 else 0
 |165=>if t=18 then 2 else 0
 |166=>if t=32 then 2 else 0
 |167=>if t=49 then 2 else if t=101 then 2 else if t=169 then 2 else if t=191 then 2 else if t=205 then 2 else if t=219 then 2 else 0
 |169=>if t=26 then 2 else if t=55 then 2 else 0
 |170=>if t=36 then 2 else 0
 |171=>if t=37 then 2 else if t=40 then 2 else if t=43 then 2 else if t=48 then 2 else 0
 |181=>if t=31 then 2 else if t=46 then 2 else if t=57 then 2 else 0
 |185=>if t=14 then 2 else 0
 |186=>if t=16 then 2 else if t=24 then 2 else if t=32 then 2 else 0
 |188=>if t=72 then 2 else 0
 |_=>0
def NN:Nat:=1048576
abbrev O2:=Option (AV×Mem)
def xee:FuncId:=3
def xef:FuncId:=4
def x6e:FuncId:=8
def x2w:FuncId:=16
def xa6:FuncId:=17
def x6f:FuncId:=18
def xa7:FuncId:=19
def x6g:FuncId:=20
def xk:FuncId:=21
def xa8:FuncId:=22
def x16:FuncId:=23
def xa9:FuncId:=24
def x2x:FuncId:=25
def xaa:FuncId:=26
def xab:FuncId:=27
def x3v:FuncId:=28
def xel:FuncId:=29
def x2g:FuncId:=30
def x6h:FuncId:=31
def x3w:FuncId:=32
def xeo:FuncId:=33
def xac:FuncId:=37
def xad:FuncId:=40
def xae:FuncId:=42
def x3x:FuncId:=43
def x3y:FuncId:=44
def x2y:FuncId:=45
def x56:FuncId:=46
def xet:FuncId:=47
def xeu:FuncId:=49
def xaf:FuncId:=50
def xev:FuncId:=53
def x6i:FuncId:=54
def x3z:FuncId:=56
def x6j:FuncId:=60
def xag:FuncId:=63
def x6k:FuncId:=70
def x57:FuncId:=71
def x2z:FuncId:=72
def xv:FuncId:=73
def x6l:FuncId:=74
def x6m:FuncId:=75
def x2h:FuncId:=76
def xah:FuncId:=77
def x6n:FuncId:=78
def x30:FuncId:=79
def x1p:FuncId:=80
def x58:FuncId:=81
def x1f:FuncId:=82
def x2i:FuncId:=83
def x31:FuncId:=84
def xai:FuncId:=85
def xaj:FuncId:=86
def x6o:FuncId:=87
def x59:FuncId:=88
def x17:FuncId:=89
def x40:FuncId:=90
def x6p:FuncId:=92
def xak:FuncId:=93
def xf6:FuncId:=94
def xal:FuncId:=97
def xf7:FuncId:=99
def x6q:FuncId:=100
def x41:FuncId:=102
def x42:FuncId:=103
def x32:FuncId:=104
def x6r:FuncId:=105
def x5a:FuncId:=106
def x6s:FuncId:=107
def xfb:FuncId:=108
def xam:FuncId:=112
def xan:FuncId:=113
def xao:FuncId:=117
def x43:FuncId:=118
def xap:FuncId:=119
def x5b:FuncId:=120
def x5c:FuncId:=121
def xq:FuncId:=122
def x5d:FuncId:=123
def xaq:FuncId:=124
def x5e:FuncId:=125
def x6d:FuncId:=126
def xar:FuncId:=127
def x5f:FuncId:=128
def xas:FuncId:=129
def x6t:FuncId:=132
def xat:FuncId:=133
def xau:FuncId:=134
def xav:FuncId:=135
def xaw:FuncId:=136
def xax:FuncId:=137
def xay:FuncId:=142
def x5g:FuncId:=143
def xaz:FuncId:=144
def xb0:FuncId:=145
def xb1:FuncId:=146
def x6u:FuncId:=147
def xa2:FuncId:=148
def xb2:FuncId:=150
def xa5:FuncId:=151
def xb3:FuncId:=152
def xb4:FuncId:=153
def xa4:FuncId:=154
def xa3:FuncId:=155
def xb5:FuncId:=156
def x5h:FuncId:=157
def x6v:FuncId:=158
def x2f:FuncId:=159
def xb6:FuncId:=160
def xb7:FuncId:=161
def x3u:FuncId:=162
def x6w:FuncId:=163
def x9y:FuncId:=164
def xa0:FuncId:=165
def x6x:FuncId:=166
def x44:FuncId:=167
def xb8:FuncId:=168
def xb9:FuncId:=169
def xba:FuncId:=170
def xbb:FuncId:=171
def xbc:FuncId:=172
def xbd:FuncId:=173
def xl:FuncId:=174
def xbe:FuncId:=175
def xbf:FuncId:=176
def xbg:FuncId:=177
def xbh:FuncId:=178
def x9z:FuncId:=179
def xbi:FuncId:=180
def xbj:FuncId:=181
def x6y:FuncId:=182
def xbk:FuncId:=183
def xbl:FuncId:=184
def x5i:FuncId:=185
def x6z:FuncId:=186
def x70:FuncId:=187
def x9x:FuncId:=188
def xbm:FuncId:=189
def xa1:FuncId:=190
def x5j:FuncId:=191
def x5k:FuncId:=192
def x2es:TypeId:=3
def x71:TypeId:=4
def x8:TypeId:=5
def xg:TypeId:=9
def x2:TypeId:=22
def x1:TypeId:=23
def x3t:TypeId:=25
def x0:TypeId:=26
def xj2:TypeId:=28
def x9:TypeId:=41
def x55:TypeId:=44
def xr4:TypeId:=60
def x1i:TypeId:=67
def xu7:TypeId:=69
def x4f:TypeId:=80
def x1gw:TypeId:=96
def x1gx:TypeId:=120
def xcx:TypeId:=121
def x1gy:TypeId:=137
def x1gz:TypeId:=152
def x1h0:TypeId:=161
def xu8:TypeId:=170
def x1h1:TypeId:=178
def x1h2:TypeId:=180
def x3j:TypeId:=181
def x8k:TypeId:=192
def xho:TypeId:=194
def x7:TypeId:=208
def xu9:TypeId:=211
def x1h3:TypeId:=215
def x15:TypeId:=226
def x6:TypeId:=228
def x3q:TypeId:=233
noncomputable def x2ep:List AV:=(zeroCells Tryz.prog x2es).getD []
noncomputable def xcj:List AV:=(zeroCells Tryz.prog x71).getD []
noncomputable def x7j:List AV:=(zeroCells Tryz.prog x3t).getD []
noncomputable def x4j:List AV:=(zeroCells Tryz.prog x0).getD []
noncomputable def xbr:List AV:=(zeroCells Tryz.prog xj2).getD []
noncomputable def xb:List AV:=(zeroCells Tryz.prog x9).getD []
noncomputable def xr:List AV:=(zeroCells Tryz.prog x55).getD []
noncomputable def x1cw:List AV:=(zeroCells Tryz.prog xr4).getD []
noncomputable def x2k:List AV:=(zeroCells Tryz.prog xu7).getD []
noncomputable def x2l:List AV:=(zeroCells Tryz.prog x1gw).getD []
noncomputable def x1g:List AV:=(zeroCells Tryz.prog x1gx).getD []
noncomputable def x1ct:List AV:=(zeroCells Tryz.prog xcx).getD []
noncomputable def x1h:List AV:=(zeroCells Tryz.prog x1gy).getD []
noncomputable def x1cu:List AV:=(zeroCells Tryz.prog x1gz).getD []
noncomputable def x1cv:List AV:=(zeroCells Tryz.prog x1h0).getD []
noncomputable def x86:List AV:=(zeroCells Tryz.prog xu8).getD []
noncomputable def xqs:List AV:=(zeroCells Tryz.prog x1h1).getD []
noncomputable def x1cx:List AV:=(zeroCells Tryz.prog x1h2).getD []
noncomputable def x8w:List AV:=(zeroCells Tryz.prog xu9).getD []
noncomputable def x99:List AV:=(zeroCells Tryz.prog x1h3).getD []
noncomputable def x1cy:List AV:=(zeroCells Tryz.prog x3q).getD []
end Go.Ix
