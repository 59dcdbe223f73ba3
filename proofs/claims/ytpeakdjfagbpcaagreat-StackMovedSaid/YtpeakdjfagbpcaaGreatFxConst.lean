import Derived.Test.YtpeakdjfagbpcaaGreatFxDefs
import Derived.Test.YtpeakdjfagbpcaaGreatProg
namespace Go.Ix
open Go.Proofs
def pol:Pol:=fun f t=>match f with
 |19=>if t=8 then 1 else if t=11 then 1 else 0
 |29=>if t=18 then 1 else if t=53 then 2 else 0
 |41=>if t=29 then 1 else 0
 |57=>if t=8 then 1 else 0
 |75=>if t=35 then 2 else 0
 |76=>if t=12 then 1 else if t=27 then 2 else 0
 |90=>if t=7 then 2 else 0
 |97=>if t=18 then 1 else if t=32 then 3 else 0
 |107=>if t=23 then 2 else if t=28 then 1 else if t=42 then 2 else if t=49 then 2 else 0
 |118=>if t=42 then 2 else 0
 |124=>if t=16 then 2 else 0
 |126=>if t=16 then 2 else 0
 |129=>if t=7 then 1 else if t=17 then 4 else if t=25 then 2 else 0
 |130=>if t=140 then 1 else 0
 |132=>if t=12 then 1 else if t=17 then 2 else if t=22 then 2 else 0
 |134=>if t=8 then 2 else 0
 |136=>if t=10 then 2 else 0
 |139=>if t=22 then 2 else 0
 |142=>if t=38 then 2 else 0
 |143=>if t=16 then 2 else 0
 |146=>if t=9 then 4 else 0
 |147=>if t=12 then 1 else if t=40 then 2 else 0
 |148=>if t=51 then 2 else 0
 |152=>if t=15 then 4 else 0
 |153=>if t=52 then 2 else 0
 |156=>if t=18 then 2 else if t=27 then 2 else if t=43 then 2 else if t=60 then 2 else 0
 |157=>if t=27 then 2 else if t=33 then 2 else if t=39 then 2 else if t=46 then 2 else if t=54 then 2 else if t=72 then 2 else if t=92 then 2 else if t=99 then 2 else if t=121 then 2 else if t=132 then 2 else 0
 |162=>if t=19 then 1 else if t=86 then 2 else 0
 |165=>if t=18 then 2 else 0
 |166=>if t=32 then 2 else 0
 |167=>if t=49 then 2 else if t=101 then 2 else if t=169 then 2 else if t=191 then 2 else if t=205 then 2 else if t=219 then 2 else 0
 |169=>if t=26 then 2 else if t=55 then 2 else 0
 |170=>if t=36 then 2 else 0
 |171=>if t=37 then 2 else if t=40 then 2 else if t=43 then 2 else if t=48 then 2 else 0
 |181=>if t=31 then 2 else if t=46 then 2 else if t=57 then 2 else 0
 |185=>if t=14 then 2 else 0
 |186=>if t=16 then 2 else if t=24 then 2 else if t=32 then 2 else 0
 |188=>if t=72 then 2 else 0
 |_=>0
def NN:Nat:=1048576
abbrev O2:=Option (AV×Mem)
def xbp:FuncId:=4
def x56:FuncId:=6
def x34:FuncId:=16
def x87:FuncId:=18
def xy:FuncId:=21
def x1b:FuncId:=23
def x88:FuncId:=24
def x2c:FuncId:=25
def x89:FuncId:=26
def x8a:FuncId:=27
def x3z:FuncId:=28
def xbv:FuncId:=29
def x1z:FuncId:=30
def x2d:FuncId:=31
def x40:FuncId:=32
def xby:FuncId:=33
def x20:FuncId:=34
def x35:FuncId:=35
def x8c:FuncId:=37
def x8d:FuncId:=40
def x8e:FuncId:=50
def x8f:FuncId:=56
def x57:FuncId:=60
def x58:FuncId:=70
def x41:FuncId:=71
def x36:FuncId:=72
def xr:FuncId:=73
def x59:FuncId:=74
def x5a:FuncId:=75
def x8g:FuncId:=76
def x2e:FuncId:=79
def x1c:FuncId:=80
def x42:FuncId:=81
def x21:FuncId:=82
def x43:FuncId:=83
def x44:FuncId:=84
def x8h:FuncId:=85
def x8i:FuncId:=86
def x5b:FuncId:=87
def x45:FuncId:=88
def x5c:FuncId:=89
def x1d:FuncId:=90
def x37:FuncId:=91
def x5d:FuncId:=92
def x8j:FuncId:=93
def xc9:FuncId:=94
def x8k:FuncId:=97
def x5e:FuncId:=100
def x8l:FuncId:=105
def x5f:FuncId:=107
def x8m:FuncId:=112
def x8n:FuncId:=113
def x46:FuncId:=118
def x8o:FuncId:=119
def x47:FuncId:=120
def x48:FuncId:=121
def xn:FuncId:=122
def x49:FuncId:=123
def x8p:FuncId:=124
def x4a:FuncId:=125
def x33:FuncId:=126
def x8q:FuncId:=127
def x5g:FuncId:=128
def x8r:FuncId:=129
def x5h:FuncId:=132
def x8s:FuncId:=133
def x8t:FuncId:=134
def x8u:FuncId:=135
def x8v:FuncId:=136
def x8w:FuncId:=142
def x4b:FuncId:=143
def x8x:FuncId:=144
def x8y:FuncId:=145
def x8z:FuncId:=146
def x5i:FuncId:=147
def x83:FuncId:=148
def x90:FuncId:=150
def x86:FuncId:=151
def x91:FuncId:=152
def x92:FuncId:=153
def x85:FuncId:=154
def x84:FuncId:=155
def x93:FuncId:=156
def x4c:FuncId:=157
def x5j:FuncId:=158
def x2b:FuncId:=159
def x94:FuncId:=161
def x32:FuncId:=162
def x5k:FuncId:=163
def x7z:FuncId:=164
def x81:FuncId:=165
def x5l:FuncId:=166
def x38:FuncId:=167
def x95:FuncId:=168
def x96:FuncId:=169
def x97:FuncId:=170
def x98:FuncId:=171
def x99:FuncId:=172
def x9a:FuncId:=173
def xi:FuncId:=174
def x9b:FuncId:=175
def x9c:FuncId:=176
def x9d:FuncId:=177
def x9e:FuncId:=178
def x80:FuncId:=179
def x9f:FuncId:=180
def x9g:FuncId:=181
def x5m:FuncId:=182
def x9h:FuncId:=183
def x9i:FuncId:=184
def x4d:FuncId:=185
def x5n:FuncId:=186
def x5o:FuncId:=187
def x7y:FuncId:=188
def x9j:FuncId:=189
def x82:FuncId:=190
def x4e:FuncId:=191
def x4f:FuncId:=192
def x1y2:TypeId:=3
def xbl:TypeId:=4
def xa:TypeId:=5
def xf:TypeId:=9
def x4:TypeId:=22
def x8:TypeId:=23
def x31:TypeId:=25
def x0:TypeId:=26
def xoj:TypeId:=28
def xb:TypeId:=41
def x3y:TypeId:=44
def x6s:TypeId:=60
def x2o:TypeId:=67
def xok:TypeId:=69
def x16x:TypeId:=96
def x16y:TypeId:=120
def xkc:TypeId:=121
def x16z:TypeId:=137
def x170:TypeId:=152
def x171:TypeId:=161
def xol:TypeId:=170
def x172:TypeId:=178
def x173:TypeId:=180
def xe4:TypeId:=181
def x6m:TypeId:=192
def xdy:TypeId:=194
def x9:TypeId:=208
def xom:TypeId:=211
def x174:TypeId:=215
def x12:TypeId:=226
def x7:TypeId:=228
def x2y:TypeId:=233
noncomputable def x1y7:List AV:=(zeroCells Tryz.prog x1y2).getD []
noncomputable def xk6:List AV:=(zeroCells Tryz.prog xbl).getD []
noncomputable def x60:List AV:=(zeroCells Tryz.prog x31).getD []
noncomputable def x3g:List AV:=(zeroCells Tryz.prog x0).getD []
noncomputable def xk0:List AV:=(zeroCells Tryz.prog xoj).getD []
noncomputable def xc:List AV:=(zeroCells Tryz.prog xb).getD []
noncomputable def xo:List AV:=(zeroCells Tryz.prog x3y).getD []
noncomputable def x13k:List AV:=(zeroCells Tryz.prog x6s).getD []
noncomputable def x24:List AV:=(zeroCells Tryz.prog xok).getD []
noncomputable def xdt:List AV:=(zeroCells Tryz.prog x16x).getD []
noncomputable def x4h:List AV:=(zeroCells Tryz.prog x16y).getD []
noncomputable def x13h:List AV:=(zeroCells Tryz.prog xkc).getD []
noncomputable def x23:List AV:=(zeroCells Tryz.prog x16z).getD []
noncomputable def x13i:List AV:=(zeroCells Tryz.prog x170).getD []
noncomputable def x13j:List AV:=(zeroCells Tryz.prog x171).getD []
noncomputable def xal:List AV:=(zeroCells Tryz.prog xol).getD []
noncomputable def xl8:List AV:=(zeroCells Tryz.prog x172).getD []
noncomputable def x13l:List AV:=(zeroCells Tryz.prog x173).getD []
noncomputable def x6x:List AV:=(zeroCells Tryz.prog xom).getD []
noncomputable def x7a:List AV:=(zeroCells Tryz.prog x174).getD []
noncomputable def x13m:List AV:=(zeroCells Tryz.prog x2y).getD []
end Go.Ix
