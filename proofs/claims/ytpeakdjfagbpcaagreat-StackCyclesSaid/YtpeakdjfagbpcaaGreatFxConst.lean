import Derived.Test.YtpeakdjfagbpcaaGreatFxDefs
import Derived.Test.YtpeakdjfagbpcaaGreatProg
namespace Go.Ix
open Go.Proofs
def pol:Pol:=fun f t=>match f with
 |19=>if t=8 then 1 else if t=11 then 1 else 0
 |29=>if t=18 then 1 else if t=53 then 2 else 0
 |41=>if t=29 then 1 else 0
 |54=>if t=52 then 2 else 0
 |57=>if t=8 then 1 else 0
 |75=>if t=35 then 2 else 0
 |76=>if t=12 then 1 else if t=27 then 2 else 0
 |90=>if t=7 then 2 else 0
 |97=>if t=18 then 1 else if t=32 then 3 else 0
 |107=>if t=23 then 2 else if t=28 then 1 else if t=42 then 2 else if t=49 then 2 else 0
 |118=>if t=42 then 2 else 0
 |124=>if t=16 then 2 else 0
 |126=>if t=16 then 2 else 0
 |129=>if t=7 then 1 else if t=17 then 4 else if t=25 then 2 else 0
 |130=>if t=140 then 1 else 0
 |132=>if t=12 then 1 else if t=17 then 2 else if t=22 then 2 else 0
 |134=>if t=8 then 2 else 0
 |136=>if t=10 then 2 else 0
 |139=>if t=22 then 2 else 0
 |142=>if t=38 then 2 else 0
 |143=>if t=16 then 2 else 0
 |146=>if t=9 then 4 else 0
 |147=>if t=12 then 1 else if t=40 then 2 else 0
 |148=>if t=51 then 2 else 0
 |152=>if t=15 then 4 else 0
 |153=>if t=52 then 2 else 0
 |156=>if t=18 then 2 else if t=27 then 2 else if t=43 then 2 else if t=60 then 2 else 0
 |157=>if t=27 then 2 else if t=33 then 2 else if t=39 then 2 else if t=46 then 2 else if t=54 then 2 else if t=72 then 2 else if t=92 then 2 else if t=99 then 2 else if t=121 then 2 else if t=132 then 2 else 0
 |162=>if t=19 then 1 else if t=86 then 2 else 0
 |165=>if t=18 then 2 else 0
 |166=>if t=32 then 2 else 0
 |167=>if t=49 then 2 else if t=101 then 2 else if t=169 then 2 else if t=191 then 2 else if t=205 then 2 else if t=219 then 2 else 0
 |169=>if t=26 then 2 else if t=55 then 2 else 0
 |170=>if t=36 then 2 else 0
 |171=>if t=37 then 2 else if t=40 then 2 else if t=43 then 2 else if t=48 then 2 else 0
 |181=>if t=31 then 2 else if t=46 then 2 else if t=57 then 2 else 0
 |185=>if t=14 then 2 else 0
 |186=>if t=16 then 2 else if t=24 then 2 else if t=32 then 2 else 0
 |188=>if t=72 then 2 else 0
 |_=>0
def NN:Nat:=1048576
abbrev O2:=Option (AV×Mem)
def x4c:FuncId:=15
def x8s:FuncId:=16
def xu:FuncId:=21
def x2y:FuncId:=25
def x3o:FuncId:=28
def x1o:FuncId:=29
def x17:FuncId:=30
def x2z:FuncId:=31
def x3p:FuncId:=32
def x30:FuncId:=33
def x31:FuncId:=42
def x32:FuncId:=55
def x3q:FuncId:=56
def x33:FuncId:=62
def x34:FuncId:=64
def x35:FuncId:=65
def x36:FuncId:=66
def x3r:FuncId:=67
def x3s:FuncId:=68
def x37:FuncId:=69
def x38:FuncId:=72
def xv:FuncId:=73
def x39:FuncId:=79
def x3t:FuncId:=80
def x3u:FuncId:=81
def x3a:FuncId:=82
def x3b:FuncId:=83
def x3c:FuncId:=84
def x3d:FuncId:=85
def x1p:FuncId:=86
def x3v:FuncId:=87
def x3w:FuncId:=88
def x18:FuncId:=89
def x3e:FuncId:=100
def x3x:FuncId:=105
def x3f:FuncId:=106
def x3y:FuncId:=109
def x3z:FuncId:=110
def x3g:FuncId:=114
def x1q:FuncId:=115
def x1r:FuncId:=116
def x40:FuncId:=117
def xjw:FuncId:=118
def x41:FuncId:=119
def x42:FuncId:=120
def x43:FuncId:=121
def xj:FuncId:=122
def x44:FuncId:=123
def x45:FuncId:=124
def x46:FuncId:=125
def x1s:FuncId:=138
def x11:FuncId:=139
def x47:FuncId:=140
def x12:FuncId:=141
def x1t:FuncId:=142
def x48:FuncId:=143
def xve:TypeId:=3
def x4x:TypeId:=4
def xb:TypeId:=5
def xk:TypeId:=9
def x3:TypeId:=22
def xa:TypeId:=23
def x3m:TypeId:=25
def x8:TypeId:=26
def x9:TypeId:=41
def x3n:TypeId:=44
def x4v:TypeId:=60
def xw:TypeId:=80
def x1u:TypeId:=91
def x4a:TypeId:=96
def xjx:TypeId:=120
def x9h:TypeId:=121
def x4b:TypeId:=157
def x4u:TypeId:=192
def xa1:TypeId:=194
noncomputable def z_int:List AV:=(zeroCells Tryz.prog xve).getD []
noncomputable def x4q:List AV:=(zeroCells Tryz.prog x4x).getD []
noncomputable def x8y:List AV:=(zeroCells Tryz.prog x3m).getD []
noncomputable def xq:List AV:=(zeroCells Tryz.prog x9).getD []
noncomputable def x1w:List AV:=(zeroCells Tryz.prog x3n).getD []
noncomputable def xbt:List AV:=(zeroCells Tryz.prog x4v).getD []
noncomputable def x3i:List AV:=(zeroCells Tryz.prog xw).getD []
noncomputable def x5:List AV:=(zeroCells Tryz.prog x4a).getD []
noncomputable def x49:List AV:=(zeroCells Tryz.prog xjx).getD []
noncomputable def xbr:List AV:=(zeroCells Tryz.prog x9h).getD []
end Go.Ix
