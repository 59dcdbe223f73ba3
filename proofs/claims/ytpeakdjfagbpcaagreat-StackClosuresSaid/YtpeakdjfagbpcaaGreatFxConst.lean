import Derived.Test.YtpeakdjfagbpcaaGreatFxDefs
import Derived.Test.YtpeakdjfagbpcaaGreatProg
namespace Go.Ix
open Go.Proofs
def pol:Pol:=fun f t=>match f with
 |19=>if t=8 then 1 else if t=11 then 1 else 0
 |29=>if t=18 then 1 else if t=53 then 2 else 0
 |41=>if t=29 then 1 else 0
 |54=>if t=52 then 2 else 0
 |57=>if t=8 then 1 else 0
 |75=>if t=35 then 2 else 0
 |76=>if t=12 then 1 else if t=27 then 2 else 0
 |90=>if t=7 then 2 else 0
 |97=>if t=18 then 1 else if t=32 then 3 else 0
 |107=>if t=23 then 2 else if t=28 then 1 else if t=42 then 2 else if t=49 then 2 else 0
 |118=>if t=42 then 2 else 0
 |124=>if t=16 then 2 else 0
 |126=>if t=16 then 2 else 0
 |129=>if t=7 then 1 else if t=17 then 4 else if t=25 then 2 else 0
 |130=>if t=140 then 1 else 0
 |132=>if t=12 then 1 else if t=17 then 2 else if t=22 then 2 else 0
 |134=>if t=8 then 2 else 0
 |136=>if t=10 then 2 else 0
 |139=>if t=22 then 2 else 0
 |142=>if t=38 then 2 else 0
 |143=>if t=16 then 2 else 0
 |146=>if t=9 then 4 else 0
 |147=>if t=12 then 1 else if t=40 then 2 else 0
 |148=>if t=51 then 2 else 0
 |152=>if t=15 then 4 else 0
 |153=>if t=52 then 2 else 0
 |156=>if t=18 then 2 else if t=27 then 2 else if t=43 then 2 else if t=60 then 2 else 0
 |157=>if t=27 then 2 else if t=33 then 2 else if t=39 then 2 else if t=46 then 2 else if t=54 then 2 else if t=72 then 2 else if t=92 then 2 else if t=99 then 2 else if t=121 then 2 else if t=132 then 2 else 0
 |162=>if t=19 then 1 else if t=86 then 2 else 0
 |165=>if t=18 then 2 else 0
 |166=>if t=32 then 2 else 0
 |167=>if t=49 then 2 else if t=101 then 2 else if t=169 then 2 else if t=191 then 2 else if t=205 then 2 else if t=219 then 2 else 0
 |169=>if t=26 then 2 else if t=55 then 2 else 0
 |170=>if t=36 then 2 else 0
 |171=>if t=37 then 2 else if t=40 then 2 else if t=43 then 2 else if t=48 then 2 else 0
 |181=>if t=31 then 2 else if t=46 then 2 else if t=57 then 2 else 0
 |185=>if t=14 then 2 else 0
 |186=>if t=16 then 2 else if t=24 then 2 else if t=32 then 2 else 0
 |188=>if t=72 then 2 else 0
 |_=>0
def NN:Nat:=1048576
abbrev O2:=Option (AV×Mem)
def x58:FuncId:=14
def xas:FuncId:=16
def x3e:FuncId:=17
def x1c:FuncId:=19
def x1v:FuncId:=20
def xu:FuncId:=21
def x3f:FuncId:=25
def x49:FuncId:=28
def x3g:FuncId:=30
def x1w:FuncId:=31
def x4a:FuncId:=32
def x1d:FuncId:=42
def x4b:FuncId:=47
def x4c:FuncId:=48
def x4d:FuncId:=49
def x3h:FuncId:=54
def x1x:FuncId:=56
def x4e:FuncId:=58
def x13:FuncId:=59
def x1y:FuncId:=60
def x3i:FuncId:=61
def x4f:FuncId:=62
def x3j:FuncId:=63
def x4g:FuncId:=68
def x4h:FuncId:=69
def x1z:FuncId:=72
def xw:FuncId:=73
def x3k:FuncId:=79
def x3l:FuncId:=80
def x4i:FuncId:=81
def x3m:FuncId:=82
def x3n:FuncId:=83
def x4j:FuncId:=84
def x4k:FuncId:=88
def x4l:FuncId:=89
def x20:FuncId:=90
def x4m:FuncId:=94
def x3o:FuncId:=100
def x3p:FuncId:=105
def x21:FuncId:=106
def x3q:FuncId:=107
def x4n:FuncId:=110
def x3r:FuncId:=111
def x3s:FuncId:=112
def x3t:FuncId:=113
def x4o:FuncId:=114
def x3u:FuncId:=115
def x4p:FuncId:=117
def xpf:FuncId:=118
def x4q:FuncId:=119
def x4r:FuncId:=120
def x4s:FuncId:=121
def xj:FuncId:=122
def x4t:FuncId:=123
def x3v:FuncId:=125
def x48:FuncId:=126
def x4u:FuncId:=134
def x3w:FuncId:=135
def x4v:FuncId:=136
def x22:FuncId:=139
def x4w:FuncId:=140
def x14:FuncId:=141
def x23:FuncId:=142
def x4x:FuncId:=143
def x59:FuncId:=156
def x3x:FuncId:=157
def x4y:FuncId:=158
def x3y:FuncId:=166
def xf0:FuncId:=167
def x4z:FuncId:=168
def xne:FuncId:=169
def xnd:FuncId:=170
def xnc:FuncId:=171
def xnb:FuncId:=172
def xna:FuncId:=173
def x3z:FuncId:=174
def xn8:FuncId:=175
def xn9:FuncId:=176
def xng:FuncId:=177
def x50:FuncId:=178
def x40:FuncId:=187
def x13x:TypeId:=3
def x65:TypeId:=4
def x6:TypeId:=5
def xh:TypeId:=9
def x7:TypeId:=22
def x5:TypeId:=23
def x46:TypeId:=25
def x2:TypeId:=26
def x66:TypeId:=28
def xf3:TypeId:=31
def x8:TypeId:=41
def x47:TypeId:=44
def x5w:TypeId:=60
def x9:TypeId:=80
def xex:TypeId:=91
def x1k:TypeId:=96
def xpg:TypeId:=120
def xey:TypeId:=121
def x5v:TypeId:=192
def xc8:TypeId:=194
def xcf:TypeId:=208
def xnf:TypeId:=226
def x45:TypeId:=228
noncomputable def x16k:List AV:=(zeroCells Tryz.prog x13x).getD []
noncomputable def x52:List AV:=(zeroCells Tryz.prog x65).getD []
noncomputable def xb1:List AV:=(zeroCells Tryz.prog x46).getD []
noncomputable def xav:List AV:=(zeroCells Tryz.prog x66).getD []
noncomputable def xew:List AV:=(zeroCells Tryz.prog xf3).getD []
noncomputable def x1g:List AV:=(zeroCells Tryz.prog x8).getD []
noncomputable def x2a:List AV:=(zeroCells Tryz.prog x47).getD []
noncomputable def xez:List AV:=(zeroCells Tryz.prog x5w).getD []
noncomputable def x5k:List AV:=(zeroCells Tryz.prog x9).getD []
noncomputable def xa:List AV:=(zeroCells Tryz.prog x1k).getD []
noncomputable def x6i:List AV:=(zeroCells Tryz.prog xpg).getD []
end Go.Ix
