import Derived.Test.YtpeakdjfagbpcaaGreatFxDefs
import Derived.Test.YtpeakdjfagbpcaaGreatProg
namespace Go.Ix
open Go.Proofs
def pol:Pol:=λf t=>match f with
 |19=>if t=8 then 1 else if t=11 then 1 else 0
 |29=>if t=18 then 1 else if t=53 then 2 else 0
 |41=>if t=29 then 1 else 0
 |54=>if t=52 then 2 else 0
 |57=>if t=8 then 1 else 0
 |75=>if t=35 then 2 else 0
 |76=>if t=12 then 1 else if t=27 then 2 else 0
 |90=>if t=7 then 2 else 0
 |97=>if t=18 then 1 else if t=32 then 3 else 0
 |107=>if t=23 then 2 else if t=28 then 1 else if t=42 then 2 else if t=49 then 2 else 0
 |118=>if t=42 then 2 else 0
 |124=>if t=16 then 2 else 0
 |126=>if t=16 then 2 else 0
 |129=>if t=7 then 1 else if t=17 then 4 else if t=25 then 2 else 0
 |130=>if t=140 then 1 else 0
 |132=>if t=12 then 1 else if t=17 then 2 else if t=22 then 2 else 0
 |134=>if t=8 then 2 else 0
 |136=>if t=10 then 2 else 0
 |139=>if t=22 then 2 else 0
 |142=>if t=38 then 2 else 0
 |143=>if t=16 then 2 else 0
 |146=>if t=9 then 4 else 0
 |147=>if t=12 then 1 else if t=40 then 2 else 0
 |148=>if t=51 then 2 else 0
 |152=>if t=15 then 4 else 0
 |153=>if t=52 then 2 else 0
 |156=>if t=18 then 2 else if t=27 then 2 else if t=43 then 2 else if t=60 then 2 else 0
 |157=>if t=27 then 2 else if t=33 then 2 else if t=39 then 2 else if t=46 then 2 else if t=54 then 2 else if t=72 then 2 else if t=92 then 2 else if t=99 then 2 else if t=121 then 2 else if t=132 then 2 else 0
 |162=>if t=19 then 1 else if t=86 then 2 else 0
 |165=>if t=18 then 2 else 0
 |166=>if t=32 then 2 else 0
 |167=>if t=49 then 2 else if t=101 then 2 else if t=169 then 2 else if t=191 then 2 else if t=205 then 2 else if t=219 then 2 else 0
 |169=>if t=26 then 2 else if t=55 then 2 else 0
 |170=>if t=36 then 2 else 0
 |171=>if t=37 then 2 else if t=40 then 2 else if t=43 then 2 else if t=48 then 2 else 0
 |181=>if t=31 then 2 else if t=46 then 2 else if t=57 then 2 else 0
 |185=>if t=14 then 2 else 0
 |186=>if t=16 then 2 else if t=24 then 2 else if t=32 then 2 else 0
 |188=>if t=72 then 2 else 0
 |_=>0
def NN:Nat:=1048576
abbrev O2:=Option (AV×Mem)
abbrev FnT:=xr5->FHs->List AV->Mem->O2
abbrev xya:=AV->AV->AV->AV->AV->AV->AV->AV->AV->AV->Mem->Nat->O2
abbrev xs4:=AV->AV->Mem->Nat->O2
abbrev xtj:=AV->AV->AV->Mem->Nat->O2
abbrev xra:=AV->AV->AV->AV->Mem->Nat->O2
abbrev xrb:=AV->AV->AV->AV->AV->Mem->Nat->O2
abbrev xrf:=AV->AV->AV->AV->AV->AV->Mem->Nat->O2
abbrev xsa:=AV->AV->AV->AV->AV->AV->AV->Mem->Nat->O2
abbrev xsg:=AV->AV->AV->AV->AV->AV->AV->AV->Mem->Nat->O2
abbrev xtz:=AV->AV->AV->AV->AV->AV->AV->AV->AV->Mem->Nat->O2
abbrev FxKtm4:=xr5->FHs->Nat->AV->AV->AV->AV->Mem->Nat->Option Mem
abbrev FxKtm7:=xr5->FHs->Nat->AV->AV->AV->AV->AV->AV->AV->Mem->Nat->Option Mem
abbrev xu4:=xr5->FHs->Nat->Mem->Nat->O2
abbrev xrj:=xr5->FHs->Nat->AV->Mem->Nat->O2
abbrev xrx:=xr5->FHs->Nat->AV->AV->Mem->Nat->O2
abbrev xsn:=xr5->FHs->Nat->AV->AV->AV->Mem->Nat->O2
abbrev xtd:=xr5->FHs->Nat->AV->AV->AV->AV->Mem->Nat->O2
abbrev xwq:=xr5->FHs->Nat->AV->AV->AV->AV->AV->Mem->Nat->O2
abbrev x108:=xr5->FHs->Nat->AV->AV->AV->AV->AV->AV->Mem->Nat->O2
abbrev FxKtr7:=xr5->FHs->Nat->AV->AV->AV->AV->AV->AV->AV->Mem->Nat->O2
def x6j:FuncId:=7
def xfo:FuncId:=16
def x23:FuncId:=17
def x11:FuncId:=19
def x12:FuncId:=20
def xi:FuncId:=21
def x45:FuncId:=23
def x24:FuncId:=25
def x46:FuncId:=28
def x25:FuncId:=30
def xf:FuncId:=31
def x48:FuncId:=32
def x26:FuncId:=36
def x27:FuncId:=37
def x1g:FuncId:=38
def x49:FuncId:=39
def x4a:FuncId:=40
def x28:FuncId:=41
def x13:FuncId:=42
def x29:FuncId:=54
def x1h:FuncId:=56
def x2a:FuncId:=60
def x4b:FuncId:=63
def x14:FuncId:=72
def xr:FuncId:=73
def x15:FuncId:=74
def x2b:FuncId:=75
def x2c:FuncId:=77
def x2d:FuncId:=78
def x2e:FuncId:=79
def x16:FuncId:=80
def x4c:FuncId:=81
def x4d:FuncId:=82
def x2f:FuncId:=83
def x4e:FuncId:=84
def x4f:FuncId:=88
def x17:FuncId:=89
def xo:FuncId:=90
def x18:FuncId:=92
def x4g:FuncId:=93
def x4h:FuncId:=94
def x2g:FuncId:=95
def x4i:FuncId:=96
def x4j:FuncId:=97
def x2h:FuncId:=98
def x2i:FuncId:=99
def x1i:FuncId:=100
def x2j:FuncId:=101
def x4k:FuncId:=104
def x4l:FuncId:=105
def x2k:FuncId:=106
def x2l:FuncId:=107
def x2m:FuncId:=112
def x2n:FuncId:=113
def x2o:FuncId:=117
def xt:FuncId:=118
def x4m:FuncId:=119
def x4n:FuncId:=120
def x4o:FuncId:=121
def xc:FuncId:=122
def x4p:FuncId:=123
def x2p:FuncId:=125
def x1f:FuncId:=126
def x4q:FuncId:=127
def x2q:FuncId:=128
def x2r:FuncId:=129
def x2s:FuncId:=130
def x2t:FuncId:=131
def x19:FuncId:=132
def x2u:FuncId:=133
def x4r:FuncId:=134
def x2v:FuncId:=135
def x4s:FuncId:=136
def x1a:FuncId:=142
def x4t:FuncId:=143
def x2w:FuncId:=144
def x2x:FuncId:=145
def x2y:FuncId:=146
def x2z:FuncId:=147
def x1e:FuncId:=148
def x30:FuncId:=149
def x31:FuncId:=150
def x10:FuncId:=151
def x32:FuncId:=152
def x4u:FuncId:=153
def x44:FuncId:=154
def x43:FuncId:=155
def x6k:FuncId:=156
def x33:FuncId:=157
def x4v:FuncId:=158
def xq:FuncId:=159
def x4w:FuncId:=161
def xz:FuncId:=162
def xu:FuncId:=163
def xh:FuncId:=164
def x1d:FuncId:=165
def x34:FuncId:=166
def xks:FuncId:=167
def x4x:FuncId:=168
def xo1:FuncId:=169
def xo0:FuncId:=170
def xnz:FuncId:=171
def xny:FuncId:=172
def xnx:FuncId:=173
def x35:FuncId:=174
def xnv:FuncId:=175
def xnw:FuncId:=176
def xo3:FuncId:=177
def x4y:FuncId:=178
def x42:FuncId:=179
def xk0:FuncId:=180
def x36:FuncId:=187
def x22:FuncId:=188
def xs6:TypeId:=3
def xd4:TypeId:=4
def x7:TypeId:=5
def xb:TypeId:=9
def x5:TypeId:=22
def x6:TypeId:=23
def x40:TypeId:=25
def x4:TypeId:=26
def x7r:TypeId:=28
def x8:TypeId:=41
def x41:TypeId:=44
def x76:TypeId:=60
def xg:TypeId:=67
def xky:TypeId:=69
def xkm:TypeId:=80
def xkz:TypeId:=96
def xqy:TypeId:=120
def xko:TypeId:=121
def xl0:TypeId:=137
def xl1:TypeId:=143
def xqz:TypeId:=152
def xr0:TypeId:=161
def xl2:TypeId:=170
def xr1:TypeId:=178
def xr2:TypeId:=180
def x1s:TypeId:=181
def x6v:TypeId:=192
def xid:TypeId:=194
def xik:TypeId:=199
def xl3:TypeId:=202
def xd:TypeId:=208
def xl4:TypeId:=211
def xr3:TypeId:=215
def xo2:TypeId:=226
def x3z:TypeId:=228
noncomputable def xse:List AV:=(zeroCells Tryz.prog xs6).getD []
noncomputable def x3b:List AV:=(zeroCells Tryz.prog xd4).getD []
noncomputable def xg2:List AV:=(zeroCells Tryz.prog x40).getD []
noncomputable def xl:List AV:=(zeroCells Tryz.prog x4).getD []
noncomputable def xfq:List AV:=(zeroCells Tryz.prog x7r).getD []
noncomputable def xj:List AV:=(zeroCells Tryz.prog x8).getD []
noncomputable def x1j:List AV:=(zeroCells Tryz.prog x41).getD []
noncomputable def xkp:List AV:=(zeroCells Tryz.prog x76).getD []
noncomputable def x9:List AV:=(zeroCells Tryz.prog xky).getD []
noncomputable def xv:List AV:=(zeroCells Tryz.prog xkz).getD []
noncomputable def xgh:List AV:=(zeroCells Tryz.prog xqy).getD []
noncomputable def xe:List AV:=(zeroCells Tryz.prog xl0).getD []
noncomputable def x5c:List AV:=(zeroCells Tryz.prog xl1).getD []
noncomputable def xkn:List AV:=(zeroCells Tryz.prog xqz).getD []
noncomputable def xh0:List AV:=(zeroCells Tryz.prog xr0).getD []
noncomputable def x6q:List AV:=(zeroCells Tryz.prog xl2).getD []
noncomputable def xb3:List AV:=(zeroCells Tryz.prog xr1).getD []
noncomputable def xkq:List AV:=(zeroCells Tryz.prog xr2).getD []
noncomputable def x1p:List AV:=(zeroCells Tryz.prog xl3).getD []
noncomputable def x68:List AV:=(zeroCells Tryz.prog xl4).getD []
noncomputable def x6e:List AV:=(zeroCells Tryz.prog xr3).getD []
end Go.Ix
