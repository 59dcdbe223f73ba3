import Derived.Test.YtpeakdjfagbpcaaGreatFxDefs
import Derived.Test.YtpeakdjfagbpcaaGreatProg
namespace Go.Ix
open Go.Proofs
def pol:Pol:=fun f t=>match f with
 |19=>if t=8 then 1 else if t=11 then 1 else 0
 |29=>if t=18 then 1 else if t=53 then 2 else 0
 |41=>if t=29 then 1 else 0
 |57=>if t=8 then 1 else 0
 |75=>if t=35 then 2 else 0
 |76=>if t=12 then 1 else if t=27 then 2 else 0
 |90=>if t=7 then 2 else 0
 |97=>if t=18 then 1 else if t=32 then 3 else 0
 |107=>if t=23 then 2 else if t=28 then 1 else if t=42 then 2 else if t=49 then 2 else 0
 |118=>if t=42 then 2 else 0
 |124=>if t=16 then 2 else 0
 |126=>if t=16 then 2 else 0
 |129=>if t=7 then 1 else if t=17 then 4 else if t=25 then 2 else 0
 |130=>if t=140 then 1 else 0
 |132=>if t=12 then 1 else if t=17 then 2 else if t=22 then 2 else 0
 |134=>if t=8 then 2 else 0
 |136=>if t=10 then 2 else 0
 |139=>if t=22 then 2 else 0
 |142=>if t=38 then 2 else 0
 |143=>if t=16 then 2 else 0
 |146=>if t=9 then 4 else 0
 |147=>if t=12 then 1 else if t=40 then 2 else 0
 |148=>if t=51 then 2 else 0
 |152=>if t=15 then 4 else 0
 |153=>if t=52 then 2 else 0
 |156=>if t=18 then 2 else if t=27 then 2 else if t=43 then 2 else if t=60 then 2 else 0
 |157=>if t=27 then 2 else if t=33 then 2 else if t=39 then 2 else if t=46 then 2 else if t=54 then 2 else if t=72 then 2 else if t=92 then 2 else if t=99 then 2 else if t=121 then 2 else if t=132 then 2 else 0
 |162=>if t=19 then 1 else if t=86 then 2 else 0
 |165=>if t=18 then 2 else 0
 |166=>if t=32 then 2 else 0
 |167=>if t=49 then 2 else if t=101 then 2 else if t=169 then 2 else if t=191 then 2 else if t=205 then 2 else if t=219 then 2 else 0
 |169=>if t=26 then 2 else if t=55 then 2 else 0
 |170=>if t=36 then 2 else 0
 |171=>if t=37 then 2 else if t=40 then 2 else if t=43 then 2 else if t=48 then 2 else 0
 |181=>if t=31 then 2 else if t=46 then 2 else if t=57 then 2 else 0
 |185=>if t=14 then 2 else 0
 |186=>if t=16 then 2 else if t=24 then 2 else if t=32 then 2 else 0
 |188=>if t=72 then 2 else 0
 |_=>0
def NN:Nat:=1048576
abbrev O2:=Option (AV×Mem)
def xbe:FuncId:=4
def x57:FuncId:=5
def x35:FuncId:=16
def x7x:FuncId:=18
def xz:FuncId:=21
def x36:FuncId:=23
def x7y:FuncId:=24
def x27:FuncId:=25
def x7z:FuncId:=26
def x80:FuncId:=27
def x41:FuncId:=28
def x37:FuncId:=29
def x38:FuncId:=30
def x42:FuncId:=31
def x43:FuncId:=32
def x39:FuncId:=33
def x82:FuncId:=37
def x83:FuncId:=40
def x84:FuncId:=50
def x44:FuncId:=56
def x58:FuncId:=60
def x59:FuncId:=70
def x45:FuncId:=71
def x1q:FuncId:=72
def xr:FuncId:=73
def x5a:FuncId:=74
def x5b:FuncId:=75
def x85:FuncId:=76
def x28:FuncId:=79
def x15:FuncId:=80
def x46:FuncId:=81
def x29:FuncId:=82
def x1r:FuncId:=83
def x1s:FuncId:=84
def x3a:FuncId:=85
def x2a:FuncId:=86
def x3b:FuncId:=87
def x47:FuncId:=88
def x2b:FuncId:=89
def x48:FuncId:=90
def x5c:FuncId:=92
def x86:FuncId:=93
def x87:FuncId:=97
def x3c:FuncId:=100
def x88:FuncId:=105
def x5d:FuncId:=107
def x89:FuncId:=112
def x8a:FuncId:=113
def x49:FuncId:=118
def x8b:FuncId:=119
def x4a:FuncId:=120
def x4b:FuncId:=121
def xk:FuncId:=122
def x4c:FuncId:=123
def x4d:FuncId:=124
def x2c:FuncId:=125
def x56:FuncId:=126
def x8c:FuncId:=127
def x5e:FuncId:=128
def x8d:FuncId:=129
def x5f:FuncId:=132
def x8e:FuncId:=133
def x8f:FuncId:=134
def x8g:FuncId:=135
def x8h:FuncId:=136
def x8i:FuncId:=142
def x4e:FuncId:=143
def x8j:FuncId:=144
def x8k:FuncId:=145
def x8l:FuncId:=146
def x5g:FuncId:=147
def x7t:FuncId:=148
def x8m:FuncId:=150
def x7w:FuncId:=151
def x8n:FuncId:=152
def x8o:FuncId:=153
def x7v:FuncId:=154
def x7u:FuncId:=155
def x8p:FuncId:=156
def x4f:FuncId:=157
def x5h:FuncId:=158
def x26:FuncId:=159
def x8q:FuncId:=161
def x34:FuncId:=162
def x5i:FuncId:=163
def x7p:FuncId:=164
def x7r:FuncId:=165
def x5j:FuncId:=166
def x3d:FuncId:=167
def x8r:FuncId:=168
def x8s:FuncId:=169
def x8t:FuncId:=170
def x8u:FuncId:=171
def x8v:FuncId:=172
def x8w:FuncId:=173
def xg:FuncId:=174
def x8x:FuncId:=175
def x8y:FuncId:=176
def x8z:FuncId:=177
def x90:FuncId:=178
def x7q:FuncId:=179
def x91:FuncId:=180
def x92:FuncId:=181
def x5k:FuncId:=182
def x93:FuncId:=183
def x94:FuncId:=184
def x4g:FuncId:=185
def x5l:FuncId:=186
def x5m:FuncId:=187
def x7o:FuncId:=188
def x95:FuncId:=189
def x7s:FuncId:=190
def x4h:FuncId:=191
def x4i:FuncId:=192
def x1v1:TypeId:=3
def xbb:TypeId:=4
def x7:TypeId:=5
def xd:TypeId:=9
def x2:TypeId:=22
def x5:TypeId:=23
def x33:TypeId:=25
def x0:TypeId:=26
def xnm:TypeId:=28
def x8:TypeId:=41
def x40:TypeId:=44
def xkk:TypeId:=60
def x2l:TypeId:=67
def xnn:TypeId:=69
def x158:TypeId:=96
def x159:TypeId:=120
def xd9:TypeId:=121
def x15a:TypeId:=137
def x15b:TypeId:=152
def x15c:TypeId:=161
def xno:TypeId:=170
def x15d:TypeId:=178
def x15e:TypeId:=180
def xdx:TypeId:=181
def x6d:TypeId:=192
def xdq:TypeId:=194
def x6:TypeId:=208
def xnp:TypeId:=211
def x15f:TypeId:=215
def xw:TypeId:=226
def x4:TypeId:=228
def x30:TypeId:=233
noncomputable def x1v9:List AV:=(zeroCells Tryz.prog x1v1).getD []
noncomputable def xjn:List AV:=(zeroCells Tryz.prog xbb).getD []
noncomputable def x5y:List AV:=(zeroCells Tryz.prog x33).getD []
noncomputable def x3k:List AV:=(zeroCells Tryz.prog x0).getD []
noncomputable def xji:List AV:=(zeroCells Tryz.prog xnm).getD []
noncomputable def x9:List AV:=(zeroCells Tryz.prog x8).getD []
noncomputable def xl:List AV:=(zeroCells Tryz.prog x40).getD []
noncomputable def x11z:List AV:=(zeroCells Tryz.prog xkk).getD []
noncomputable def x1w:List AV:=(zeroCells Tryz.prog xnn).getD []
noncomputable def xdl:List AV:=(zeroCells Tryz.prog x158).getD []
noncomputable def x3f:List AV:=(zeroCells Tryz.prog x159).getD []
noncomputable def xj9:List AV:=(zeroCells Tryz.prog xd9).getD []
noncomputable def x1v:List AV:=(zeroCells Tryz.prog x15a).getD []
noncomputable def x11x:List AV:=(zeroCells Tryz.prog x15b).getD []
noncomputable def x11y:List AV:=(zeroCells Tryz.prog x15c).getD []
noncomputable def xac:List AV:=(zeroCells Tryz.prog xno).getD []
noncomputable def xka:List AV:=(zeroCells Tryz.prog x15d).getD []
noncomputable def x120:List AV:=(zeroCells Tryz.prog x15e).getD []
noncomputable def x6n:List AV:=(zeroCells Tryz.prog xnp).getD []
noncomputable def x70:List AV:=(zeroCells Tryz.prog x15f).getD []
noncomputable def x121:List AV:=(zeroCells Tryz.prog x30).getD []
end Go.Ix
