import Derived.Test.YtdfahbenacjgeaaGreatFxDefs
import Derived.Test.YtdfahbenacjgeaaGreatProg
namespace Go.Ix
open Go.Proofs
def pol:Pol:=λf t=>match f with
 |8=>if t=8 then 1 else if t=11 then 1 else 0
 |11=>if t=18 then 1 else if t=53 then 2 else 0
 |21=>if t=8 then 1 else 0
 |31=>if t=35 then 2 else 0
 |32=>if t=12 then 1 else if t=27 then 2 else 0
 |45=>if t=7 then 2 else 0
 |48=>if t=18 then 1 else if t=32 then 3 else 0
 |63=>if t=23 then 2 else if t=28 then 1 else if t=42 then 2 else if t=49 then 2 else 0
 |64=>if t=42 then 2 else 0
 |67=>if t=16 then 2 else 0
 |70=>if t=16 then 2 else 0
 |71=>if t=12 then 1 else if t=17 then 2 else if t=22 then 2 else 0
 |80=>if t=22 then 2 else 0
 |86=>if t=8 then 2 else 0
 |88=>if t=10 then 2 else 0
 |89=>if t=38 then 2 else 0
 |94=>if t=15 then 4 else 0
 |95=>if t=52 then 2 else 0
 |102=>if t=52 then 2 else 0
 |103=>if t=18 then 2 else if t=27 then 2 else if t=43 then 2 else if t=60 then 2 else 0
 |104=>if t=27 then 2 else if t=33 then 2 else if t=39 then 2 else if t=46 then 2 else if t=54 then 2 else if t=72 then 2 else if t=92 then 2 else if t=99 then 2 else if t=121 then 2 else if t=132 then 2 else 0
 |109=>if t=19 then 1 else if t=86 then 2 else 0
 |110=>if t=12 then 1 else if t=40 then 2 else 0
 |111=>if t=18 then 2 else 0
 |114=>if t=32 then 2 else 0
 |115=>if t=49 then 2 else if t=101 then 2 else if t=169 then 2 else if t=191 then 2 else if t=205 then 2 else if t=219 then 2 else 0
 |117=>if t=26 then 2 else if t=55 then 2 else 0
 |118=>if t=36 then 2 else 0
 |119=>if t=37 then 2 else if t=40 then 2 else if t=43 then 2 else if t=48 then 2 else 0
 |127=>if t=16 then 2 else 0
 |131=>if t=31 then 2 else if t=46 then 2 else if t=57 then 2 else 0
 |135=>if t=14 then 2 else 0
 |136=>if t=16 then 2 else if t=24 then 2 else if t=32 then 2 else 0
 |139=>if t=72 then 2 else 0
 |_=>0
def NN:Nat:=1048576
abbrev O2:=Option (AV×Mem)
abbrev FnT:=xk3->FHs->List AV->Mem->O2
abbrev xpl:=AV->AV->AV->AV->AV->AV->AV->AV->AV->AV->Mem->Nat->O2
abbrev xkw:=AV->AV->Mem->Nat->O2
abbrev xlv:=AV->AV->AV->Mem->Nat->O2
abbrev xkd:=AV->AV->AV->AV->Mem->Nat->O2
abbrev xkc:=AV->AV->AV->AV->AV->Mem->Nat->O2
abbrev xkf:=AV->AV->AV->AV->AV->AV->Mem->Nat->O2
abbrev xl9:=AV->AV->AV->AV->AV->AV->AV->Mem->Nat->O2
abbrev xlm:=AV->AV->AV->AV->AV->AV->AV->AV->Mem->Nat->O2
abbrev xma:=AV->AV->AV->AV->AV->AV->AV->AV->AV->Mem->Nat->O2
abbrev FxKtm7:=xk3->FHs->Nat->AV->AV->AV->AV->AV->AV->AV->Mem->Nat->Option Mem
abbrev xm8:=xk3->FHs->Nat->Mem->Nat->O2
abbrev xkm:=xk3->FHs->Nat->AV->Mem->Nat->O2
abbrev xkp:=xk3->FHs->Nat->AV->AV->Mem->Nat->O2
abbrev xlg:=xk3->FHs->Nat->AV->AV->AV->Mem->Nat->O2
abbrev xm9:=xk3->FHs->Nat->AV->AV->AV->AV->Mem->Nat->O2
abbrev FxKtr5:=xk3->FHs->Nat->AV->AV->AV->AV->AV->Mem->Nat->O2
abbrev FxKtr6:=xk3->FHs->Nat->AV->AV->AV->AV->AV->AV->Mem->Nat->O2
abbrev FxKtr7:=xk3->FHs->Nat->AV->AV->AV->AV->AV->AV->AV->Mem->Nat->O2
def x4c:FuncId:=3
def xb9:FuncId:=5
def x1a:FuncId:=6
def xt:FuncId:=7
def xu:FuncId:=8
def x1b:FuncId:=9
def xe:FuncId:=10
def x1c:FuncId:=11
def xc:FuncId:=12
def x1d:FuncId:=13
def xi:FuncId:=14
def x1e:FuncId:=15
def x2j:FuncId:=16
def x9:FuncId:=20
def xj:FuncId:=22
def x1f:FuncId:=27
def x2k:FuncId:=28
def xa:FuncId:=29
def x1g:FuncId:=30
def xv:FuncId:=31
def xw:FuncId:=32
def xk:FuncId:=33
def x1h:FuncId:=34
def xl:FuncId:=35
def xm:FuncId:=36
def x1i:FuncId:=37
def xx:FuncId:=38
def x2l:FuncId:=39
def xd:FuncId:=40
def xn:FuncId:=41
def x2m:FuncId:=42
def x2n:FuncId:=43
def x1j:FuncId:=44
def xo:FuncId:=45
def x1k:FuncId:=46
def xy:FuncId:=47
def x2o:FuncId:=52
def x1l:FuncId:=58
def x1m:FuncId:=59
def xp:FuncId:=60
def x1n:FuncId:=61
def x1o:FuncId:=62
def x1p:FuncId:=63
def xf:FuncId:=64
def x2p:FuncId:=65
def x2q:FuncId:=66
def x2r:FuncId:=67
def xz:FuncId:=68
def x1q:FuncId:=69
def x2i:FuncId:=70
def x2s:FuncId:=77
def x2t:FuncId:=78
def x2u:FuncId:=83
def x1r:FuncId:=84
def x2v:FuncId:=85
def x2w:FuncId:=86
def x1s:FuncId:=87
def x2x:FuncId:=88
def xq:FuncId:=89
def x1t:FuncId:=90
def x1u:FuncId:=91
def x1v:FuncId:=99
def x1w:FuncId:=102
def x4e:FuncId:=103
def x1x:FuncId:=104
def x2y:FuncId:=105
def x2z:FuncId:=106
def x30:FuncId:=107
def x8:FuncId:=108
def x31:FuncId:=112
def x10:FuncId:=113
def x1y:FuncId:=114
def xfa:FuncId:=115
def x32:FuncId:=116
def xhr:FuncId:=117
def xhq:FuncId:=118
def xhp:FuncId:=119
def xho:FuncId:=120
def xhn:FuncId:=121
def x1z:FuncId:=122
def xhl:FuncId:=123
def xhm:FuncId:=124
def xht:FuncId:=125
def x33:FuncId:=126
def x34:FuncId:=127
def x20:FuncId:=137
def xkv:TypeId:=3
def x11:TypeId:=4
def x5:TypeId:=5
def x7:TypeId:=9
def x3:TypeId:=22
def x4:TypeId:=23
def x2g:TypeId:=25
def x2:TypeId:=26
def x4x:TypeId:=28
def x3r:TypeId:=29
def xf2:TypeId:=31
def xjy:TypeId:=41
def xf6:TypeId:=53
def xfh:TypeId:=55
def xjz:TypeId:=70
def x64:TypeId:=71
def x6:TypeId:=77
def xfi:TypeId:=90
def x92:TypeId:=101
def xk0:TypeId:=109
def xk1:TypeId:=110
def x4o:TypeId:=114
def x2h:TypeId:=117
def x4s:TypeId:=139
def xdh:TypeId:=141
def xdv:TypeId:=153
def xhs:TypeId:=175
def x2f:TypeId:=177
def x4u:TypeId:=178
noncomputable def xly:List AV:=(zeroCells Tryz.prog xkv).getD []
noncomputable def x4l:List AV:=(zeroCells Tryz.prog x11).getD []
noncomputable def xbi:List AV:=(zeroCells Tryz.prog x2g).getD []
noncomputable def xc5:List AV:=(zeroCells Tryz.prog x2).getD []
noncomputable def xbh:List AV:=(zeroCells Tryz.prog x4x).getD []
noncomputable def xba:List AV:=(zeroCells Tryz.prog xjy).getD []
noncomputable def x23:List AV:=(zeroCells Tryz.prog xfh).getD []
noncomputable def x38:List AV:=(zeroCells Tryz.prog xjz).getD []
noncomputable def xf5:List AV:=(zeroCells Tryz.prog x64).getD []
noncomputable def xb:List AV:=(zeroCells Tryz.prog x6).getD []
noncomputable def xd6:List AV:=(zeroCells Tryz.prog xfi).getD []
noncomputable def xh:List AV:=(zeroCells Tryz.prog x92).getD []
noncomputable def xf7:List AV:=(zeroCells Tryz.prog xk0).getD []
noncomputable def xc6:List AV:=(zeroCells Tryz.prog xk1).getD []
noncomputable def x12:List AV:=(zeroCells Tryz.prog x2h).getD []
noncomputable def xf8:List AV:=(zeroCells Tryz.prog x4s).getD []
end Go.Ix
