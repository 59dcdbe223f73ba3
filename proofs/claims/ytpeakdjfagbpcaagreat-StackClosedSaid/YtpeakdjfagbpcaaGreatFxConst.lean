import Derived.Test.YtpeakdjfagbpcaaGreatFxDefs
import Derived.Test.YtpeakdjfagbpcaaGreatProg
namespace Go.Ix
open Go.Proofs
def pol:Pol:=fun f t=>match f with
 |19=>if t=8 then 1 else if t=11 then 1 else 0
 |29=>if t=18 then 1 else if t=53 then 2 else 0
 |41=>if t=29 then 1 else 0
 |54=>if t=52 then 2 else 0
 |57=>if t=8 then 1 else 0
 |75=>if t=35 then 2 else 0
 |76=>if t=12 then 1 else if t=27 then 2 else 0
 |90=>if t=7 then 2 else 0
 |97=>if t=18 then 1 else if t=32 then 3 else 0
 |107=>if t=23 then 2 else if t=28 then 1 else if t=42 then 2 else if t=49 then 2 else 0
 |118=>if t=42 then 2 else 0
 |124=>if t=16 then 2 else 0
 |126=>if t=16 then 2 else 0
 |129=>if t=7 then 1 else if t=17 then 4 else if t=25 then 2 else 0
 |130=>if t=140 then 1 else 0
 |132=>if t=12 then 1 else if t=17 then 2 else if t=22 then 2 else 0
 |134=>if t=8 then 2 else 0
 |136=>if t=10 then 2 else 0
 |139=>if t=22 then 2 else 0
 |142=>if t=38 then 2 else 0
 |143=>if t=16 then 2 else 0
 |146=>if t=9 then 4 else 0
 |147=>if t=12 then 1 else if t=40 then 2 else 0
 |148=>if t=51 then 2 else 0
 |152=>if t=15 then 4 else 0
 |153=>if t=52 then 2 else 0
 |156=>if t=18 then 2 else if t=27 then 2 else if t=43 then 2 else if t=60 then 2 else 0
 |157=>if t=27 then 2 else if t=33 then 2 else if t=39 then 2 else if t=46 then 2 else if t=54 then 2 else if t=72 then 2 else if t=92 then 2 else if t=99 then 2 else if t=121 then 2 else if t=132 then 2 else 0
 |162=>if t=19 then 1 else if t=86 then 2 else 0
 |165=>if t=18 then 2 else 0
 |166=>if t=32 then 2 else 0
 |167=>if t=49 then 2 else if t=101 then 2 else if t=169 then 2 else if t=191 then 2 else if t=205 then 2 else if t=219 then 2 else 0
 |169=>if t=26 then 2 else if t=55 then 2 else 0
 |170=>if t=36 then 2 else 0
 |171=>if t=37 then 2 else if t=40 then 2 else if t=43 then 2 else if t=48 then 2 else 0
 |181=>if t=31 then 2 else if t=46 then 2 else if t=57 then 2 else 0
 |185=>if t=14 then 2 else 0
 |186=>if t=16 then 2 else if t=24 then 2 else if t=32 then 2 else 0
 |188=>if t=72 then 2 else 0
 |_=>0
def NN:Nat:=1048576
abbrev O2:=Option (AV×Mem)
def xf8:FuncId:=3
def xf9:FuncId:=4
def xfa:FuncId:=9
def x7i:FuncId:=13
def x2l:FuncId:=16
def x34:FuncId:=17
def x2m:FuncId:=18
def x1a:FuncId:=19
def x2n:FuncId:=20
def xm:FuncId:=21
def xav:FuncId:=22
def x2o:FuncId:=23
def xaw:FuncId:=24
def x35:FuncId:=25
def xax:FuncId:=26
def xay:FuncId:=27
def x4p:FuncId:=28
def xfi:FuncId:=29
def x36:FuncId:=30
def x1s:FuncId:=31
def x4q:FuncId:=32
def xfl:FuncId:=33
def xaz:FuncId:=37
def xb0:FuncId:=40
def x4r:FuncId:=41
def xb1:FuncId:=42
def xb2:FuncId:=45
def x4s:FuncId:=47
def x4t:FuncId:=48
def xb3:FuncId:=49
def xb4:FuncId:=50
def xfp:FuncId:=53
def x7k:FuncId:=54
def x4u:FuncId:=56
def x4v:FuncId:=57
def x66:FuncId:=58
def x2p:FuncId:=60
def xb5:FuncId:=63
def x7l:FuncId:=70
def x67:FuncId:=71
def x1t:FuncId:=72
def xy:FuncId:=73
def x1u:FuncId:=74
def x37:FuncId:=75
def x4w:FuncId:=76
def xb6:FuncId:=77
def x7m:FuncId:=78
def x38:FuncId:=79
def x1i:FuncId:=80
def x68:FuncId:=81
def x2q:FuncId:=82
def x2r:FuncId:=83
def x39:FuncId:=84
def xb7:FuncId:=85
def xb8:FuncId:=86
def x7n:FuncId:=87
def x69:FuncId:=88
def x3a:FuncId:=89
def x1e:FuncId:=90
def x7o:FuncId:=92
def xb9:FuncId:=93
def xg6:FuncId:=94
def xba:FuncId:=97
def x4x:FuncId:=98
def x4y:FuncId:=99
def x3b:FuncId:=100
def x4z:FuncId:=101
def xbb:FuncId:=103
def x7p:FuncId:=104
def x50:FuncId:=105
def x6a:FuncId:=106
def x3c:FuncId:=107
def xgd:FuncId:=108
def x6b:FuncId:=111
def x51:FuncId:=112
def x52:FuncId:=113
def xbc:FuncId:=117
def x1f:FuncId:=118
def x6c:FuncId:=119
def x6d:FuncId:=120
def x6e:FuncId:=121
def xt:FuncId:=122
def x6f:FuncId:=123
def xbd:FuncId:=124
def x3d:FuncId:=125
def x4o:FuncId:=126
def xbe:FuncId:=127
def x6g:FuncId:=128
def xbf:FuncId:=129
def x7q:FuncId:=132
def xbg:FuncId:=133
def x6h:FuncId:=134
def x53:FuncId:=135
def x6i:FuncId:=136
def xbh:FuncId:=137
def x3e:FuncId:=142
def x6j:FuncId:=143
def xbi:FuncId:=144
def xbj:FuncId:=145
def xbk:FuncId:=146
def x7r:FuncId:=147
def xaq:FuncId:=148
def xbl:FuncId:=150
def xat:FuncId:=151
def xbm:FuncId:=152
def xbn:FuncId:=153
def xas:FuncId:=154
def xar:FuncId:=155
def x7s:FuncId:=156
def x54:FuncId:=157
def x55:FuncId:=158
def x2k:FuncId:=159
def xbo:FuncId:=160
def xbp:FuncId:=161
def x4n:FuncId:=162
def x7t:FuncId:=163
def xam:FuncId:=164
def xao:FuncId:=165
def x56:FuncId:=166
def x57:FuncId:=167
def x6k:FuncId:=168
def xbq:FuncId:=169
def xbr:FuncId:=170
def xbs:FuncId:=171
def xbt:FuncId:=172
def xbu:FuncId:=173
def xf:FuncId:=174
def xbv:FuncId:=175
def xbw:FuncId:=176
def xbx:FuncId:=177
def x6l:FuncId:=178
def xan:FuncId:=179
def xby:FuncId:=180
def xbz:FuncId:=181
def x7u:FuncId:=182
def xc0:FuncId:=183
def xc1:FuncId:=184
def x6m:FuncId:=185
def x7v:FuncId:=186
def x58:FuncId:=187
def xal:FuncId:=188
def xc2:FuncId:=189
def xap:FuncId:=190
def x6n:FuncId:=191
def x6o:FuncId:=192
def x2fl:TypeId:=3
def x7w:TypeId:=4
def xa:TypeId:=5
def xi:TypeId:=9
def x4:TypeId:=22
def x3:TypeId:=23
def x4m:TypeId:=25
def x2:TypeId:=26
def x7h:TypeId:=28
def xb:TypeId:=41
def x65:TypeId:=44
def x9h:TypeId:=60
def x1m:TypeId:=67
def xv9:TypeId:=69
def xv:TypeId:=80
def xak:TypeId:=96
def x1hx:TypeId:=120
def xip:TypeId:=121
def x1hy:TypeId:=137
def x1hz:TypeId:=152
def x1i0:TypeId:=161
def xva:TypeId:=170
def x1i1:TypeId:=178
def x1i2:TypeId:=180
def xjp:TypeId:=181
def x9a:TypeId:=192
def xji:TypeId:=194
def x9:TypeId:=208
def xvb:TypeId:=211
def x1i3:TypeId:=215
def x17:TypeId:=226
def x8:TypeId:=228
def x4j:TypeId:=233
noncomputable def x2fk:List AV:=(zeroCells Tryz.prog x2fl).getD []
noncomputable def x6r:List AV:=(zeroCells Tryz.prog x7w).getD []
noncomputable def x8b:List AV:=(zeroCells Tryz.prog x4m).getD []
noncomputable def x3y:List AV:=(zeroCells Tryz.prog x2).getD []
noncomputable def x3f:List AV:=(zeroCells Tryz.prog x7h).getD []
noncomputable def xd:List AV:=(zeroCells Tryz.prog xb).getD []
noncomputable def xu:List AV:=(zeroCells Tryz.prog x65).getD []
noncomputable def xsl:List AV:=(zeroCells Tryz.prog x9h).getD []
noncomputable def x2v:List AV:=(zeroCells Tryz.prog xv9).getD []
noncomputable def x1g:List AV:=(zeroCells Tryz.prog xak).getD []
noncomputable def x2s:List AV:=(zeroCells Tryz.prog x1hx).getD []
noncomputable def x1dt:List AV:=(zeroCells Tryz.prog xip).getD []
noncomputable def x1l:List AV:=(zeroCells Tryz.prog x1hy).getD []
noncomputable def xre:List AV:=(zeroCells Tryz.prog x1hz).getD []
noncomputable def xig:List AV:=(zeroCells Tryz.prog x1i0).getD []
noncomputable def x90:List AV:=(zeroCells Tryz.prog xva).getD []
noncomputable def xsd:List AV:=(zeroCells Tryz.prog x1i1).getD []
noncomputable def x1du:List AV:=(zeroCells Tryz.prog x1i2).getD []
noncomputable def x9l:List AV:=(zeroCells Tryz.prog xvb).getD []
noncomputable def x9w:List AV:=(zeroCells Tryz.prog x1i3).getD []
noncomputable def x1dv:List AV:=(zeroCells Tryz.prog x4j).getD []
end Go.Ix
