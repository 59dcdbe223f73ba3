import Derived.Test.YtpeakdjfagbpcaaGreatFxDefs
import Derived.Test.YtpeakdjfagbpcaaGreatProg
namespace Go.Ix
open Go.Proofs
def pol:Pol:=fun f t=>match f with
 |19=>if t=8 then 1 else if t=11 then 1 else 0
 |29=>if t=18 then 1 else if t=53 then 2 else 0
 |41=>if t=29 then 1 else 0
 |57=>if t=8 then 1 else 0
 |75=>if t=35 then 2 else 0
 |76=>if t=12 then 1 else if t=27 then 2 else 0
 |90=>if t=7 then 2 else 0
 |97=>if t=18 then 1 else if t=32 then 3 else 0
 |107=>if t=23 then 2 else if t=28 then 1 else if t=42 then 2 else if t=49 then 2 else 0
 |118=>if t=42 then 2 else 0
 |124=>if t=16 then 2 else 0
 |126=>if t=16 then 2 else 0
 |129=>if t=7 then 1 else if t=17 then 4 else if t=25 then 2 else 0
 |130=>if t=140 then 1 else 0
 |132=>if t=12 then 1 else if t=17 then 2 else if t=22 then 2 else 0
 |134=>if t=8 then 2 else 0
 |136=>if t=10 then 2 else 0
 |139=>if t=22 then 2 else 0
 |142=>if t=38 then 2 else 0
 |143=>if t=16 then 2 else 0
 |146=>if t=9 then 4 else 0
 |147=>if t=12 then 1 else if t=40 then 2 else 0
 |148=>if t=51 then 2 else 0
 |152=>if t=15 then 4 else 0
 |153=>if t=52 then 2 else 0
 |156=>if t=18 then 2 else if t=27 then 2 else if t=43 then 2 else if t=60 then 2 else 0
 |157=>if t=27 then 2 else if t=33 then 2 else if t=39 then 2 else if t=46 then 2 else if t=54 then 2 else if t=72 then 2 else if t=92 then 2 else if t=99 then 2 else if t=121 then 2 else if t=132 then 2 else 0
 |162=>if t=19 then 1 else if t=86 then 2 else 0
 |165=>if t=18 then 2 else 0
 |166=>if t=32 then 2 else 0
 |167=>if t=49 then 2 else if t=101 then 2 else if t=169 then 2 else if t=191 then 2 else if t=205 then 2 else if t=219 then 2 else 0
 |169=>if t=26 then 2 else if t=55 then 2 else 0
 |170=>if t=36 then 2 else 0
 |171=>if t=37 then 2 else if t=40 then 2 else if t=43 then 2 else if t=48 then 2 else 0
 |181=>if t=31 then 2 else if t=46 then 2 else if t=57 then 2 else 0
 |185=>if t=14 then 2 else 0
 |186=>if t=16 then 2 else if t=24 then 2 else if t=32 then 2 else 0
 |188=>if t=72 then 2 else 0
 |_=>0
def NN:Nat:=1048576
abbrev O2:=Option (AV×Mem)
def x47:FuncId:=4
def x34:FuncId:=16
def x6z:FuncId:=18
def x1n:FuncId:=21
def x2e:FuncId:=23
def x35:FuncId:=24
def x2f:FuncId:=25
def x36:FuncId:=26
def x37:FuncId:=27
def x70:FuncId:=37
def x71:FuncId:=40
def x72:FuncId:=50
def x48:FuncId:=60
def x49:FuncId:=70
def x38:FuncId:=71
def x2g:FuncId:=72
def xq:FuncId:=73
def x4a:FuncId:=74
def x4b:FuncId:=75
def x73:FuncId:=76
def x1w:FuncId:=79
def xy:FuncId:=80
def x39:FuncId:=81
def x4c:FuncId:=82
def x4d:FuncId:=83
def x4e:FuncId:=84
def x74:FuncId:=87
def x3a:FuncId:=90
def x4f:FuncId:=92
def x75:FuncId:=93
def x76:FuncId:=97
def x4g:FuncId:=100
def x77:FuncId:=105
def x4h:FuncId:=107
def x78:FuncId:=112
def x79:FuncId:=113
def x3b:FuncId:=118
def x7a:FuncId:=119
def x3c:FuncId:=120
def x3d:FuncId:=121
def xf:FuncId:=122
def x7b:FuncId:=123
def x3e:FuncId:=125
def x46:FuncId:=126
def x7c:FuncId:=127
def x4i:FuncId:=128
def x7d:FuncId:=129
def x4j:FuncId:=132
def x7e:FuncId:=133
def x7f:FuncId:=134
def x7g:FuncId:=135
def x7h:FuncId:=136
def x7i:FuncId:=142
def x3f:FuncId:=143
def x7j:FuncId:=144
def x7k:FuncId:=145
def x7l:FuncId:=146
def x4k:FuncId:=147
def x6v:FuncId:=148
def x7m:FuncId:=150
def x6y:FuncId:=151
def x7n:FuncId:=152
def x7o:FuncId:=153
def x6x:FuncId:=154
def x6w:FuncId:=155
def x7p:FuncId:=156
def x3g:FuncId:=157
def x4l:FuncId:=158
def x1v:FuncId:=159
def x7q:FuncId:=161
def x2d:FuncId:=162
def x4m:FuncId:=163
def x6r:FuncId:=164
def x6t:FuncId:=165
def x4n:FuncId:=166
def x2h:FuncId:=167
def x7r:FuncId:=168
def x7s:FuncId:=169
def x7t:FuncId:=170
def x7u:FuncId:=171
def x7v:FuncId:=172
def x7w:FuncId:=173
def xd:FuncId:=174
def x7x:FuncId:=175
def x7y:FuncId:=176
def x7z:FuncId:=177
def x80:FuncId:=178
def x6s:FuncId:=179
def x81:FuncId:=180
def x82:FuncId:=181
def x4o:FuncId:=182
def x83:FuncId:=183
def x84:FuncId:=184
def x3h:FuncId:=185
def x4p:FuncId:=186
def x4q:FuncId:=187
def x6q:FuncId:=188
def x85:FuncId:=189
def x6u:FuncId:=190
def x3i:FuncId:=191
def x3j:FuncId:=192
def x1ny:TypeId:=3
def xks:TypeId:=4
def x5:TypeId:=5
def xb:TypeId:=9
def x6:TypeId:=22
def xj:TypeId:=23
def xkt:TypeId:=25
def x1:TypeId:=26
def xku:TypeId:=28
def x50:TypeId:=41
def x2c:TypeId:=44
def xhq:TypeId:=60
def x23:TypeId:=67
def xkv:TypeId:=69
def x10l:TypeId:=96
def x10m:TypeId:=120
def xxo:TypeId:=121
def x10n:TypeId:=137
def x10o:TypeId:=152
def x10p:TypeId:=161
def xkw:TypeId:=170
def x10q:TypeId:=178
def x10r:TypeId:=180
def xbe:TypeId:=181
def x5e:TypeId:=192
def xh6:TypeId:=194
def x4:TypeId:=208
def xkx:TypeId:=211
def x10s:TypeId:=215
def xp:TypeId:=226
def x3:TypeId:=228
def x29:TypeId:=233
noncomputable def x1o3:List AV:=(zeroCells Tryz.prog x1ny).getD []
noncomputable def xgh:List AV:=(zeroCells Tryz.prog xks).getD []
noncomputable def xga:List AV:=(zeroCells Tryz.prog xkt).getD []
noncomputable def x2l:List AV:=(zeroCells Tryz.prog x1).getD []
noncomputable def xgc:List AV:=(zeroCells Tryz.prog xku).getD []
noncomputable def xg:List AV:=(zeroCells Tryz.prog x50).getD []
noncomputable def xr:List AV:=(zeroCells Tryz.prog x2c).getD []
noncomputable def xxp:List AV:=(zeroCells Tryz.prog xhq).getD []
noncomputable def x1q:List AV:=(zeroCells Tryz.prog xkv).getD []
noncomputable def xb5:List AV:=(zeroCells Tryz.prog x10l).getD []
noncomputable def x4t:List AV:=(zeroCells Tryz.prog x10m).getD []
noncomputable def x1p:List AV:=(zeroCells Tryz.prog x10n).getD []
noncomputable def xxm:List AV:=(zeroCells Tryz.prog x10o).getD []
noncomputable def xxn:List AV:=(zeroCells Tryz.prog x10p).getD []
noncomputable def x8x:List AV:=(zeroCells Tryz.prog xkw).getD []
noncomputable def xhg:List AV:=(zeroCells Tryz.prog x10q).getD []
noncomputable def xxq:List AV:=(zeroCells Tryz.prog x10r).getD []
noncomputable def x5p:List AV:=(zeroCells Tryz.prog xkx).getD []
noncomputable def x62:List AV:=(zeroCells Tryz.prog x10s).getD []
noncomputable def xxr:List AV:=(zeroCells Tryz.prog x29).getD []
end Go.Ix
