import Derived.Test.YtpeakdjfagbpcaaGreatFxDefs
import Derived.Test.YtpeakdjfagbpcaaGreatProg
namespace Go.Ix
open Go.Proofs
def pol:Pol:=fun f t=>match f with
 |19=>if t=8 then 1 else if t=11 then 1 else 0
 |29=>if t=18 then 1 else if t=53 then 2 else 0
 |41=>if t=29 then 1 else 0
 |57=>if t=8 then 1 else 0
 |75=>if t=35 then 2 else 0
 |76=>if t=12 then 1 else if t=27 then 2 else 0
 |90=>if t=7 then 2 else 0
 |97=>if t=18 then 1 else if t=32 then 3 else 0
 |107=>if t=23 then 2 else if t=28 then 1 else if t=42 then 2 else if t=49 then 2 else 0
 |118=>if t=42 then 2 else 0
 |124=>if t=16 then 2 else 0
 |126=>if t=16 then 2 else 0
 |129=>if t=7 then 1 else if t=17 then 4 else if t=25 then 2 else 0
 |130=>if t=140 then 1 else 0
 |132=>if t=12 then 1 else if t=17 then 2 else if t=22 then 2 else 0
 |134=>if t=8 then 2 else 0
 |136=>if t=10 then 2 else 0
 |139=>if t=22 then 2 else 0
 |142=>if t=38 then 2 else 0
 |143=>if t=16 then 2 else 0
 |146=>if t=9 then 4 else 0
 |147=>if t=12 then 1 else if t=40 then 2 else 0
 |148=>if t=51 then 2 else 0
 |152=>if t=15 then 4 else 0
 |153=>if t=52 then 2 else 0
 |156=>if t=18 then 2 else if t=27 then 2 else if t=43 then 2 else if t=60 then 2 else 0
 |157=>if t=27 then 2 else if t=33 then 2 else if t=39 then 2 else if t=46 then 2 else if t=54 then 2 else if t=72 then 2 else if t=92 then 2 else if t=99 then 2 else if t=121 then 2 else if t=132 then 2 else 0
 |162=>if t=19 then 1 else if t=86 then 2 else 0
 |165=>if t=18 then 2 else 0
 |166=>if t=32 then 2 else 0
 |167=>if t=49 then 2 else if t=101 then 2 else if t=169 then 2 else if t=191 then 2 else if t=205 then 2 else if t=219 then 2 else 0
 |169=>if t=26 then 2 else if t=55 then 2 else 0
 |170=>if t=36 then 2 else 0
 |171=>if t=37 then 2 else if t=40 then 2 else if t=43 then 2 else if t=48 then 2 else 0
 |181=>if t=31 then 2 else if t=46 then 2 else if t=57 then 2 else 0
 |185=>if t=14 then 2 else 0
 |186=>if t=16 then 2 else if t=24 then 2 else if t=32 then 2 else 0
 |188=>if t=72 then 2 else 0
 |_=>0
def NN:Nat:=1048576
abbrev O2:=Option (AV×Mem)
def xbc:FuncId:=4
def x50:FuncId:=9
def x2s:FuncId:=16
def x88:FuncId:=18
def xz:FuncId:=21
def x2t:FuncId:=23
def x89:FuncId:=24
def x28:FuncId:=25
def x8a:FuncId:=26
def x8b:FuncId:=27
def x3t:FuncId:=28
def xbh:FuncId:=29
def x29:FuncId:=30
def xbj:FuncId:=31
def x2u:FuncId:=32
def xbl:FuncId:=33
def x8c:FuncId:=37
def x8d:FuncId:=40
def x2v:FuncId:=47
def x2w:FuncId:=48
def x3u:FuncId:=49
def x8e:FuncId:=50
def x8f:FuncId:=56
def x51:FuncId:=60
def x52:FuncId:=70
def x3v:FuncId:=71
def x2x:FuncId:=72
def xo:FuncId:=73
def x53:FuncId:=74
def x54:FuncId:=75
def x8g:FuncId:=76
def x2a:FuncId:=79
def x19:FuncId:=80
def x3w:FuncId:=81
def x1v:FuncId:=82
def x3x:FuncId:=83
def x3y:FuncId:=84
def x8h:FuncId:=85
def x8i:FuncId:=86
def x55:FuncId:=87
def x3z:FuncId:=88
def x56:FuncId:=89
def x40:FuncId:=90
def x57:FuncId:=92
def x8j:FuncId:=93
def x8k:FuncId:=97
def x58:FuncId:=100
def x2y:FuncId:=105
def x41:FuncId:=106
def x59:FuncId:=107
def x8l:FuncId:=112
def x8m:FuncId:=113
def x42:FuncId:=118
def x8n:FuncId:=119
def x43:FuncId:=120
def x44:FuncId:=121
def xk:FuncId:=122
def x45:FuncId:=123
def x8o:FuncId:=124
def x46:FuncId:=125
def x4z:FuncId:=126
def x8p:FuncId:=127
def x5a:FuncId:=128
def x8q:FuncId:=129
def x5b:FuncId:=132
def x8r:FuncId:=133
def x8s:FuncId:=134
def x8t:FuncId:=135
def x8u:FuncId:=136
def x8v:FuncId:=142
def x47:FuncId:=143
def x8w:FuncId:=144
def x8x:FuncId:=145
def x8y:FuncId:=146
def x5c:FuncId:=147
def x84:FuncId:=148
def x8z:FuncId:=150
def x87:FuncId:=151
def x90:FuncId:=152
def x91:FuncId:=153
def x86:FuncId:=154
def x85:FuncId:=155
def x92:FuncId:=156
def x48:FuncId:=157
def x5d:FuncId:=158
def x27:FuncId:=159
def x93:FuncId:=161
def x2r:FuncId:=162
def x5e:FuncId:=163
def x80:FuncId:=164
def x82:FuncId:=165
def x5f:FuncId:=166
def x2z:FuncId:=167
def x94:FuncId:=168
def x95:FuncId:=169
def x96:FuncId:=170
def x97:FuncId:=171
def x98:FuncId:=172
def x99:FuncId:=173
def xf:FuncId:=174
def x9a:FuncId:=175
def x9b:FuncId:=176
def x9c:FuncId:=177
def x9d:FuncId:=178
def x81:FuncId:=179
def x9e:FuncId:=180
def x9f:FuncId:=181
def x5g:FuncId:=182
def x9g:FuncId:=183
def x9h:FuncId:=184
def x49:FuncId:=185
def x5h:FuncId:=186
def x5i:FuncId:=187
def x7z:FuncId:=188
def x9i:FuncId:=189
def x83:FuncId:=190
def x4a:FuncId:=191
def x4b:FuncId:=192
def x1xc:TypeId:=3
def xb9:TypeId:=4
def x7:TypeId:=5
def xc:TypeId:=9
def x2:TypeId:=22
def x3:TypeId:=23
def x2q:TypeId:=25
def x1:TypeId:=26
def xo7:TypeId:=28
def x8:TypeId:=41
def x3s:TypeId:=44
def xl5:TypeId:=60
def x2f:TypeId:=67
def xo8:TypeId:=69
def x10:TypeId:=80
def x7y:TypeId:=96
def x16h:TypeId:=120
def xjy:TypeId:=121
def x16i:TypeId:=137
def x16j:TypeId:=152
def x16k:TypeId:=161
def xo9:TypeId:=170
def x16l:TypeId:=178
def x16m:TypeId:=180
def xdq:TypeId:=181
def x6m:TypeId:=192
def xdk:TypeId:=194
def x6:TypeId:=208
def xoa:TypeId:=211
def x16n:TypeId:=215
def xy:TypeId:=226
def x5:TypeId:=228
def x2n:TypeId:=233
noncomputable def x1xg:List AV:=(zeroCells Tryz.prog x1xc).getD []
noncomputable def xjs:List AV:=(zeroCells Tryz.prog xb9).getD []
noncomputable def x5w:List AV:=(zeroCells Tryz.prog x2q).getD []
noncomputable def x39:List AV:=(zeroCells Tryz.prog x1).getD []
noncomputable def xjm:List AV:=(zeroCells Tryz.prog xo7).getD []
noncomputable def x9:List AV:=(zeroCells Tryz.prog x8).getD []
noncomputable def xl:List AV:=(zeroCells Tryz.prog x3s).getD []
noncomputable def x134:List AV:=(zeroCells Tryz.prog xl5).getD []
noncomputable def x1y:List AV:=(zeroCells Tryz.prog xo8).getD []
noncomputable def x37:List AV:=(zeroCells Tryz.prog x7y).getD []
noncomputable def x2b:List AV:=(zeroCells Tryz.prog x16h).getD []
noncomputable def x131:List AV:=(zeroCells Tryz.prog xjy).getD []
noncomputable def x1x:List AV:=(zeroCells Tryz.prog x16i).getD []
noncomputable def x132:List AV:=(zeroCells Tryz.prog x16j).getD []
noncomputable def x133:List AV:=(zeroCells Tryz.prog x16k).getD []
noncomputable def xac:List AV:=(zeroCells Tryz.prog xo9).getD []
noncomputable def xkv:List AV:=(zeroCells Tryz.prog x16l).getD []
noncomputable def x135:List AV:=(zeroCells Tryz.prog x16m).getD []
noncomputable def x6x:List AV:=(zeroCells Tryz.prog xoa).getD []
noncomputable def x7a:List AV:=(zeroCells Tryz.prog x16n).getD []
noncomputable def x136:List AV:=(zeroCells Tryz.prog x2n).getD []
end Go.Ix
