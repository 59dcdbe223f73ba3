import Derived.Test.YtifmaegopmkaoaaGreatFxDefs
import Derived.Test.YtifmaegopmkaoaaGreatProg
namespace Go.Ix
open Go.Proofs
def pol:Pol:=λf t=>match f with
 |10=>if t=7 then 2 else if t=13 then 2 else 0
 |67=>if t=26 then 2 else 0
 |102=>if t=10 then 2 else 0
 |109=>if t=31 then 2 else 0
 |110=>if t=19 then 2 else if t=27 then 2 else 0
 |118=>if t=27 then 2 else if t=33 then 2 else if t=39 then 2 else if t=46 then 2 else if t=54 then 2 else if t=72 then 2 else if t=92 then 2 else if t=99 then 2 else if t=121 then 2 else if t=132 then 2 else 0
 |126=>if t=26 then 2 else if t=55 then 2 else 0
 |127=>if t=36 then 2 else 0
 |128=>if t=37 then 2 else if t=40 then 2 else if t=43 then 2 else if t=48 then 2 else 0
 |141=>if t=14 then 2 else 0
 |142=>if t=16 then 2 else if t=24 then 2 else if t=32 then 2 else 0
 |_=>0
def NN:Nat:=18446744073709551616
abbrev O2:=Option (AV×Mem)
abbrev FnT:=xer->FHs->List AV->Mem->O2
abbrev xgi:=AV->AV->AV->AV->AV->AV->AV->AV->AV->AV->Mem->Nat->O2
abbrev xjq:=AV->AV->AV->AV->AV->AV->AV->AV->AV->AV->AV->Mem->Nat->O2
abbrev xi9:=AV->AV->Mem->Nat->O2
abbrev xis:=AV->AV->AV->Mem->Nat->O2
abbrev xfp:=AV->AV->AV->AV->Mem->Nat->O2
abbrev xgb:=AV->AV->AV->AV->AV->Mem->Nat->O2
abbrev xhs:=AV->AV->AV->AV->AV->AV->Mem->Nat->O2
abbrev xft:=AV->AV->AV->AV->AV->AV->AV->Mem->Nat->O2
abbrev xjp:=AV->AV->AV->AV->AV->AV->AV->AV->Mem->Nat->O2
abbrev xfj:=AV->AV->AV->AV->AV->AV->AV->AV->AV->Mem->Nat->O2
abbrev FxKtm3:=xer->FHs->Nat->AV->AV->AV->Mem->Nat->Option Mem
abbrev FxKtm5:=xer->FHs->Nat->AV->AV->AV->AV->AV->Mem->Nat->Option Mem
abbrev xmv:=xer->FHs->Nat->Mem->Nat->O2
abbrev xfd:=xer->FHs->Nat->AV->Mem->Nat->O2
abbrev xfb:=xer->FHs->Nat->AV->AV->Mem->Nat->O2
abbrev xfu:=xer->FHs->Nat->AV->AV->AV->Mem->Nat->O2
abbrev xmt:=xer->FHs->Nat->AV->AV->AV->AV->Mem->Nat->O2
abbrev xlj:=xer->FHs->Nat->AV->AV->AV->AV->AV->Mem->Nat->O2
abbrev xmu:=xer->FHs->Nat->AV->AV->AV->AV->AV->AV->Mem->Nat->O2
abbrev FxKtr7:=xer->FHs->Nat->AV->AV->AV->AV->AV->AV->AV->Mem->Nat->O2
abbrev xjo:=xer->FHs->Nat->AV->AV->AV->AV->AV->AV->AV->AV->Mem->Nat->O2
def x3o:FuncId:=3
def x9g:FuncId:=5
def x27:FuncId:=6
def xr:FuncId:=7
def x1c:FuncId:=8
def x1d:FuncId:=9
def x1e:FuncId:=10
def x1f:FuncId:=11
def x28:FuncId:=12
def x1g:FuncId:=13
def x29:FuncId:=14
def x2a:FuncId:=15
def x2b:FuncId:=26
def x1h:FuncId:=28
def x1i:FuncId:=29
def xt:FuncId:=30
def x2c:FuncId:=31
def x1j:FuncId:=32
def xu:FuncId:=33
def xf:FuncId:=34
def xc:FuncId:=35
def x1k:FuncId:=36
def x2d:FuncId:=37
def xv:FuncId:=38
def x2e:FuncId:=39
def x2f:FuncId:=51
def xw:FuncId:=53
def x2g:FuncId:=57
def x2h:FuncId:=60
def xq:FuncId:=61
def x2i:FuncId:=62
def x2j:FuncId:=63
def xx:FuncId:=64
def x2k:FuncId:=65
def x1l:FuncId:=66
def xg:FuncId:=68
def x2l:FuncId:=79
def x2m:FuncId:=83
def x2n:FuncId:=84
def x1m:FuncId:=85
def xy:FuncId:=86
def x2o:FuncId:=88
def x2p:FuncId:=90
def xe:FuncId:=92
def xo:FuncId:=93
def x2q:FuncId:=94
def x1n:FuncId:=95
def x2r:FuncId:=96
def x2s:FuncId:=97
def x2t:FuncId:=98
def x2u:FuncId:=99
def x1o:FuncId:=100
def x1p:FuncId:=101
def xj:FuncId:=109
def x2v:FuncId:=111
def x2w:FuncId:=112
def x1q:FuncId:=113
def x1r:FuncId:=114
def x2x:FuncId:=115
def x2y:FuncId:=116
def x2z:FuncId:=117
def x1s:FuncId:=121
def x30:FuncId:=122
def x1t:FuncId:=123
def x1u:FuncId:=124
def x1v:FuncId:=135
def x1w:FuncId:=136
def xz:FuncId:=137
def x4r:FuncId:=143
def xcq:FuncId:=144
def x4t:FuncId:=145
def x4s:FuncId:=146
def xey:TypeId:=3
def xem:TypeId:=4
def xax:TypeId:=5
def xcp:TypeId:=9
def x14:TypeId:=22
def xn:TypeId:=24
def xam:TypeId:=26
def x7o:TypeId:=28
def x4i:TypeId:=31
def xan:TypeId:=33
def xaz:TypeId:=35
def xa:TypeId:=37
def xh:TypeId:=41
def x3s:TypeId:=50
def xp:TypeId:=66
def x8:TypeId:=75
def xb:TypeId:=78
def xen:TypeId:=86
def xao:TypeId:=88
def xb0:TypeId:=92
def xb1:TypeId:=94
def xk:TypeId:=99
def x1b:TypeId:=108
def x6:TypeId:=135
def x60:TypeId:=164
def x9:TypeId:=167
def xeo:TypeId:=168
def x7:TypeId:=172
def x4g:TypeId:=182
def x4n:TypeId:=216
noncomputable def xjl:List AV:=(zeroCells Tryz.prog xey).getD []
noncomputable def x20:List AV:=(zeroCells Tryz.prog xan).getD []
noncomputable def x52:List AV:=(zeroCells Tryz.prog xaz).getD []
noncomputable def x10:List AV:=(zeroCells Tryz.prog x3s).getD []
noncomputable def xd:List AV:=(zeroCells Tryz.prog xp).getD []
noncomputable def xau:List AV:=(zeroCells Tryz.prog xb).getD []
noncomputable def x5z:List AV:=(zeroCells Tryz.prog xen).getD []
noncomputable def xi:List AV:=(zeroCells Tryz.prog xao).getD []
noncomputable def x3b:List AV:=(zeroCells Tryz.prog xb0).getD []
noncomputable def x34:List AV:=(zeroCells Tryz.prog xb1).getD []
noncomputable def x3w:List AV:=(zeroCells Tryz.prog xk).getD []
noncomputable def xav:List AV:=(zeroCells Tryz.prog x60).getD []
noncomputable def x64:List AV:=(zeroCells Tryz.prog x9).getD []
noncomputable def xaw:List AV:=(zeroCells Tryz.prog xeo).getD []
noncomputable def x3n:List AV:=(zeroCells Tryz.prog x4n).getD []
end Go.Ix
