import Derived.Test.YtpeakdjfagbpcaaGreatFxDefs
import Derived.Test.YtpeakdjfagbpcaaGreatProg
namespace Go.Ix
open Go.Proofs
def pol:Pol:=fun f t=>match f with
 |19=>if t=8 then 1 else if t=11 then 1 else 0
 |29=>if t=18 then 1 else if t=53 then 2 else 0
 |41=>if t=29 then 1 else 0
 |54=>if t=52 then 2 else 0
 |57=>if t=8 then 1 else 0
 |75=>if t=35 then 2 else 0
 |76=>if t=12 then 1 else if t=27 then 2 else 0
 |90=>if t=7 then 2 else 0
 |97=>if t=18 then 1 else if t=32 then 3 else 0
 |107=>if t=23 then 2 else if t=28 then 1 else if t=42 then 2 else if t=49 then 2 else 0
 |118=>if t=42 then 2 else 0
 |124=>if t=16 then 2 else 0
 |126=>if t=16 then 2 else 0
 |129=>if t=7 then 1 else if t=17 then 4 else if t=25 then 2 else 0
 |130=>if t=140 then 1 else 0
 |132=>if t=12 then 1 else if t=17 then 2 else if t=22 then 2 else 0
 |134=>if t=8 then 2 else 0
 |136=>if t=10 then 2 else 0
 |139=>if t=22 then 2 else 0
 |142=>if t=38 then 2 else 0
 |143=>if t=16 then 2 else 0
 |146=>if t=9 then 4 else 0
 |147=>if t=12 then 1 else if t=40 then 2 else 0
 |148=>if t=51 then 2 else 0
 |152=>if t=15 then 4 else 0
 |153=>if t=52 then 2 else 0
 |156=>if t=18 then 2 else if t=27 then 2 else if t=43 then 2 else if t=60 then 2 else 0
 |157=>if t=27 then 2 else if t=33 then 2 else if t=39 then 2 else if t=46 then 2 else if t=54 then 2 else if t=72 then 2 else if t=92 then 2 else if t=99 then 2 else if t=121 then 2 else if t=132 then 2 else 0
 |162=>if t=19 then 1 else if t=86 then 2 else 0
 |165=>if t=18 then 2 else 0
 |166=>if t=32 then 2 else 0
 |167=>if t=49 then 2 else if t=101 then 2 else if t=169 then 2 else if t=191 then 2 else if t=205 then 2 else if t=219 then 2 else 0
 |169=>if t=26 then 2 else if t=55 then 2 else 0
 |170=>if t=36 then 2 else 0
 |171=>if t=37 then 2 else if t=40 then 2 else if t=43 then 2 else if t=48 then 2 else 0
 |181=>if t=31 then 2 else if t=46 then 2 else if t=57 then 2 else 0
 |185=>if t=14 then 2 else 0
 |186=>if t=16 then 2 else if t=24 then 2 else if t=32 then 2 else 0
 |188=>if t=72 then 2 else 0
 |_=>0
def NN:Nat:=1048576
abbrev O2:=Option (AV×Mem)
def xep:FuncId:=3
def xeq:FuncId:=4
def xer:FuncId:=5
def xes:FuncId:=8
def x6y:FuncId:=10
def x1p:FuncId:=16
def xah:FuncId:=17
def x6z:FuncId:=18
def xai:FuncId:=19
def x70:FuncId:=20
def xm:FuncId:=21
def xaj:FuncId:=22
def x1g:FuncId:=23
def xak:FuncId:=24
def x34:FuncId:=25
def xal:FuncId:=26
def xam:FuncId:=27
def x2n:FuncId:=28
def x2o:FuncId:=29
def x12:FuncId:=30
def x1q:FuncId:=31
def x2p:FuncId:=32
def xao:FuncId:=33
def xap:FuncId:=37
def xaq:FuncId:=40
def x4c:FuncId:=42
def x35:FuncId:=43
def xar:FuncId:=44
def x71:FuncId:=45
def xas:FuncId:=46
def xf1:FuncId:=47
def xf2:FuncId:=49
def x36:FuncId:=50
def xf4:FuncId:=53
def x72:FuncId:=54
def x4d:FuncId:=56
def x73:FuncId:=60
def xat:FuncId:=63
def x74:FuncId:=70
def x5p:FuncId:=71
def x37:FuncId:=72
def xx:FuncId:=73
def x75:FuncId:=74
def x76:FuncId:=75
def x2q:FuncId:=76
def xau:FuncId:=77
def x77:FuncId:=78
def x38:FuncId:=79
def x1r:FuncId:=80
def x5q:FuncId:=81
def x1h:FuncId:=82
def x2r:FuncId:=83
def x2s:FuncId:=84
def x4e:FuncId:=85
def x39:FuncId:=86
def x4f:FuncId:=87
def x5r:FuncId:=88
def x2t:FuncId:=89
def x4g:FuncId:=90
def x78:FuncId:=92
def xav:FuncId:=93
def xfh:FuncId:=94
def xaw:FuncId:=97
def xfi:FuncId:=99
def x4h:FuncId:=100
def x4i:FuncId:=102
def xax:FuncId:=103
def x5s:FuncId:=104
def x79:FuncId:=105
def x5t:FuncId:=106
def x3a:FuncId:=107
def xfm:FuncId:=108
def xay:FuncId:=112
def xaz:FuncId:=113
def xb0:FuncId:=117
def x4j:FuncId:=118
def xb1:FuncId:=119
def x5u:FuncId:=120
def x5v:FuncId:=121
def xt:FuncId:=122
def x5w:FuncId:=123
def x5x:FuncId:=124
def x3b:FuncId:=125
def x6x:FuncId:=126
def xb2:FuncId:=127
def x5y:FuncId:=128
def xb3:FuncId:=129
def x7a:FuncId:=132
def xb4:FuncId:=133
def x5z:FuncId:=134
def x4k:FuncId:=135
def x60:FuncId:=136
def xb5:FuncId:=137
def xb6:FuncId:=142
def x61:FuncId:=143
def xb7:FuncId:=144
def xb8:FuncId:=145
def xb9:FuncId:=146
def x7b:FuncId:=147
def xad:FuncId:=148
def xba:FuncId:=150
def xag:FuncId:=151
def xbb:FuncId:=152
def xbc:FuncId:=153
def xaf:FuncId:=154
def xae:FuncId:=155
def x7c:FuncId:=156
def x4l:FuncId:=157
def x4m:FuncId:=158
def x2m:FuncId:=159
def xbd:FuncId:=160
def xbe:FuncId:=161
def x4b:FuncId:=162
def x7d:FuncId:=163
def xa9:FuncId:=164
def xab:FuncId:=165
def x4n:FuncId:=166
def x4o:FuncId:=167
def x62:FuncId:=168
def xbf:FuncId:=169
def xbg:FuncId:=170
def xbh:FuncId:=171
def xbi:FuncId:=172
def xbj:FuncId:=173
def xf:FuncId:=174
def xbk:FuncId:=175
def xbl:FuncId:=176
def xbm:FuncId:=177
def x63:FuncId:=178
def xaa:FuncId:=179
def xbn:FuncId:=180
def xbo:FuncId:=181
def x7e:FuncId:=182
def xbp:FuncId:=183
def xbq:FuncId:=184
def x64:FuncId:=185
def x7f:FuncId:=186
def x4p:FuncId:=187
def xa8:FuncId:=188
def xbr:FuncId:=189
def xac:FuncId:=190
def x65:FuncId:=191
def x66:FuncId:=192
def x2gc:TypeId:=3
def x7g:TypeId:=4
def xa:TypeId:=5
def xi:TypeId:=9
def x4:TypeId:=22
def x3:TypeId:=23
def x4a:TypeId:=25
def x2:TypeId:=26
def xk9:TypeId:=28
def xb:TypeId:=41
def x5o:TypeId:=44
def xsf:TypeId:=60
def x1l:TypeId:=67
def xv5:TypeId:=69
def x4z:TypeId:=80
def x1i2:TypeId:=96
def x1i3:TypeId:=120
def xd4:TypeId:=121
def x1i4:TypeId:=137
def x1i5:TypeId:=152
def x1i6:TypeId:=161
def xv6:TypeId:=170
def x1i7:TypeId:=178
def x1i8:TypeId:=180
def x3u:TypeId:=181
def x8y:TypeId:=192
def xij:TypeId:=194
def x9:TypeId:=208
def xv7:TypeId:=211
def x1i9:TypeId:=215
def x18:TypeId:=226
def x8:TypeId:=228
def x47:TypeId:=233
noncomputable def x2gd:List AV:=(zeroCells Tryz.prog x2gc).getD []
noncomputable def xcq:List AV:=(zeroCells Tryz.prog x7g).getD []
noncomputable def x7y:List AV:=(zeroCells Tryz.prog x4a).getD []
noncomputable def x53:List AV:=(zeroCells Tryz.prog x2).getD []
noncomputable def xc0:List AV:=(zeroCells Tryz.prog xk9).getD []
noncomputable def xd:List AV:=(zeroCells Tryz.prog xb).getD []
noncomputable def xu:List AV:=(zeroCells Tryz.prog x5o).getD []
noncomputable def x1e0:List AV:=(zeroCells Tryz.prog xsf).getD []
noncomputable def x2w:List AV:=(zeroCells Tryz.prog xv5).getD []
noncomputable def x2x:List AV:=(zeroCells Tryz.prog x1i2).getD []
noncomputable def x1j:List AV:=(zeroCells Tryz.prog x1i3).getD []
noncomputable def xq4:List AV:=(zeroCells Tryz.prog xd4).getD []
noncomputable def x1k:List AV:=(zeroCells Tryz.prog x1i4).getD []
noncomputable def x1dy:List AV:=(zeroCells Tryz.prog x1i5).getD []
noncomputable def x1dz:List AV:=(zeroCells Tryz.prog x1i6).getD []
noncomputable def x8m:List AV:=(zeroCells Tryz.prog xv6).getD []
noncomputable def xs6:List AV:=(zeroCells Tryz.prog x1i7).getD []
noncomputable def x1e1:List AV:=(zeroCells Tryz.prog x1i8).getD []
noncomputable def x99:List AV:=(zeroCells Tryz.prog xv7).getD []
noncomputable def x9k:List AV:=(zeroCells Tryz.prog x1i9).getD []
noncomputable def x1e2:List AV:=(zeroCells Tryz.prog x47).getD []
end Go.Ix
