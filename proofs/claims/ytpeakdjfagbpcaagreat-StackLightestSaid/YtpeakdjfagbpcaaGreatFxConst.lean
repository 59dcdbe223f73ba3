import Derived.Test.YtpeakdjfagbpcaaGreatFxDefs
import Derived.Test.YtpeakdjfagbpcaaGreatProg
namespace Go.Ix
open Go.Proofs
def pol:Pol:=fun f t=>match f with
 |19=>if t=8 then 1 else if t=11 then 1 else 0
 |29=>if t=18 then 1 else if t=53 then 2 else 0
 |41=>if t=29 then 1 else 0
 |54=>if t=52 then 2 else 0
 |57=>if t=8 then 1 else 0
 |75=>if t=35 then 2 else 0
 |76=>if t=12 then 1 else if t=27 then 2 else 0
 |90=>if t=7 then 2 else 0
 |97=>if t=18 then 1 else if t=32 then 3 else 0
 |107=>if t=23 then 2 else if t=28 then 1 else if t=42 then 2 else if t=49 then 2 else 0
 |118=>if t=42 then 2 else 0
 |124=>if t=16 then 2 else 0
 |126=>if t=16 then 2 else 0
 |129=>if t=7 then 1 else if t=17 then 4 else if t=25 then 2 else 0
 |130=>if t=140 then 1 else 0
 |132=>if t=12 then 1 else if t=17 then 2 else if t=22 then 2 else 0
 |134=>if t=8 then 2 else 0
 |136=>if t=10 then 2 else 0
 |139=>if t=22 then 2 else 0
 |142=>if t=38 then 2 else 0
 |143=>if t=16 then 2 else 0
 |146=>if t=9 then 4 else 0
 |147=>if t=12 then 1 else if t=40 then 2 else 0
 |148=>if t=51 then 2 else 0
 |152=>if t=15 then 4 else 0
 |153=>if t=52 then 2 else 0
 |156=>if t=18 then 2 else if t=27 then 2 else if t=43 then 2 else if t=60 then 2 else 0
 |157=>if t=27 then 2 else if t=33 then 2 else if t=39 then 2 else if t=46 then 2 else if t=54 then 2 else if t=72 then 2 else if t=92 then 2 else if t=99 then 2 else if t=121 then 2 else if t=132 then 2 else 0
 |162=>if t=19 then 1 else if t=86 then 2 else 0
 |165=>if t=18 then 2 else 0
 |166=>if t=32 then 2 else 0
 |167=>if t=49 then 2 else if t=101 then 2 else if t=169 then 2 else if t=191 then 2 else if t=205 then 2 else if t=219 then 2 else 0
 |169=>if t=26 then 2 else if t=55 then 2 else 0
 |170=>if t=36 then 2 else 0
 |171=>if t=37 then 2 else if t=40 then 2 else if t=43 then 2 else if t=48 then 2 else 0
 |181=>if t=31 then 2 else if t=46 then 2 else if t=57 then 2 else 0
 |185=>if t=14 then 2 else 0
 |186=>if t=16 then 2 else if t=24 then 2 else if t=32 then 2 else 0
 |188=>if t=72 then 2 else 0
 |_=>0
def NN:Nat:=1048576
abbrev O2:=Option (AV×Mem)
def x4e:FuncId:=12
def x92:FuncId:=16
def xv:FuncId:=21
def x3j:FuncId:=23
def x2t:FuncId:=25
def x3k:FuncId:=28
def x2u:FuncId:=29
def x1m:FuncId:=30
def x3l:FuncId:=31
def x3m:FuncId:=32
def x1n:FuncId:=42
def x3n:FuncId:=49
def x2v:FuncId:=50
def x2w:FuncId:=54
def x2x:FuncId:=55
def xw:FuncId:=56
def x2y:FuncId:=72
def xx:FuncId:=73
def x2z:FuncId:=79
def x3o:FuncId:=80
def x3p:FuncId:=81
def x30:FuncId:=82
def x1o:FuncId:=83
def x1p:FuncId:=84
def x31:FuncId:=85
def x1q:FuncId:=86
def x32:FuncId:=87
def x3q:FuncId:=88
def x3r:FuncId:=89
def x33:FuncId:=100
def x3s:FuncId:=105
def x3t:FuncId:=106
def x34:FuncId:=107
def x3u:FuncId:=109
def x3v:FuncId:=110
def x3w:FuncId:=114
def x35:FuncId:=115
def xle:FuncId:=118
def x3x:FuncId:=119
def x3y:FuncId:=120
def x3z:FuncId:=121
def xe:FuncId:=122
def x40:FuncId:=123
def x41:FuncId:=124
def x1r:FuncId:=125
def x42:FuncId:=134
def x36:FuncId:=135
def x43:FuncId:=136
def x1s:FuncId:=138
def xy:FuncId:=139
def x44:FuncId:=140
def xz:FuncId:=141
def x1t:FuncId:=142
def x45:FuncId:=143
def x4f:FuncId:=156
def x37:FuncId:=157
def x46:FuncId:=158
def x38:FuncId:=166
def xcl:FuncId:=167
def x47:FuncId:=168
def xjn:FuncId:=169
def xjm:FuncId:=170
def xjl:FuncId:=171
def xjk:FuncId:=172
def xjj:FuncId:=173
def x39:FuncId:=174
def xjh:FuncId:=175
def xji:FuncId:=176
def xjp:FuncId:=177
def x48:FuncId:=178
def x3a:FuncId:=187
def xxk:TypeId:=3
def x55:TypeId:=4
def x3:TypeId:=5
def xc:TypeId:=9
def x6:TypeId:=22
def x4:TypeId:=23
def x3h:TypeId:=25
def x2:TypeId:=26
def x5:TypeId:=41
def x3i:TypeId:=44
def x4w:TypeId:=60
def x1u:TypeId:=80
def x90:TypeId:=91
def xco:TypeId:=96
def xlf:TypeId:=120
def x9o:TypeId:=121
def x4v:TypeId:=192
def xa7:TypeId:=194
def xae:TypeId:=208
def xjo:TypeId:=226
def x3g:TypeId:=228
noncomputable def x10o:List AV:=(zeroCells Tryz.prog xxk).getD []
noncomputable def x4n:List AV:=(zeroCells Tryz.prog x55).getD []
noncomputable def x99:List AV:=(zeroCells Tryz.prog x3h).getD []
noncomputable def x19:List AV:=(zeroCells Tryz.prog x5).getD []
noncomputable def x1z:List AV:=(zeroCells Tryz.prog x3i).getD []
noncomputable def xck:List AV:=(zeroCells Tryz.prog x4w).getD []
noncomputable def x6q:List AV:=(zeroCells Tryz.prog x1u).getD []
noncomputable def x1a:List AV:=(zeroCells Tryz.prog xco).getD []
noncomputable def x3b:List AV:=(zeroCells Tryz.prog xlf).getD []
noncomputable def xci:List AV:=(zeroCells Tryz.prog x9o).getD []
end Go.Ix
