import Derived.Test.YtdfahbenacjgeaaGreatFxDefs
import Derived.Test.YtdfahbenacjgeaaGreatProg
namespace Go.Ix
open Go.Proofs
def pol:Pol:=λf t=>match f with
 |8=>if t=8 then 1 else if t=11 then 1 else 0
 |11=>if t=18 then 1 else if t=53 then 2 else 0
 |21=>if t=8 then 1 else 0
 |31=>if t=35 then 2 else 0
 |32=>if t=12 then 1 else if t=27 then 2 else 0
 |45=>if t=7 then 2 else 0
 |48=>if t=18 then 1 else if t=32 then 3 else 0
 |63=>if t=23 then 2 else if t=28 then 1 else if t=42 then 2 else if t=49 then 2 else 0
 |64=>if t=42 then 2 else 0
 |67=>if t=16 then 2 else 0
 |70=>if t=16 then 2 else 0
 |71=>if t=12 then 1 else if t=17 then 2 else if t=22 then 2 else 0
 |80=>if t=22 then 2 else 0
 |86=>if t=8 then 2 else 0
 |88=>if t=10 then 2 else 0
 |89=>if t=38 then 2 else 0
 |94=>if t=15 then 4 else 0
 |95=>if t=52 then 2 else 0
 |102=>if t=52 then 2 else 0
 |103=>if t=18 then 2 else if t=27 then 2 else if t=43 then 2 else if t=60 then 2 else 0
 |104=>if t=27 then 2 else if t=33 then 2 else if t=39 then 2 else if t=46 then 2 else if t=54 then 2 else if t=72 then 2 else if t=92 then 2 else if t=99 then 2 else if t=121 then 2 else if t=132 then 2 else 0
 |109=>if t=19 then 1 else if t=86 then 2 else 0
 |110=>if t=12 then 1 else if t=40 then 2 else 0
 |111=>if t=18 then 2 else 0
 |114=>if t=32 then 2 else 0
 |115=>if t=49 then 2 else if t=101 then 2 else if t=169 then 2 else if t=191 then 2 else if t=205 then 2 else if t=219 then 2 else 0
 |117=>if t=26 then 2 else if t=55 then 2 else 0
 |118=>if t=36 then 2 else 0
 |119=>if t=37 then 2 else if t=40 then 2 else if t=43 then 2 else if t=48 then 2 else 0
 |127=>if t=16 then 2 else 0
 |131=>if t=31 then 2 else if t=46 then 2 else if t=57 then 2 else 0
 |135=>if t=14 then 2 else 0
 |136=>if t=16 then 2 else if t=24 then 2 else if t=32 then 2 else 0
 |139=>if t=72 then 2 else 0
 |_=>0
def NN:Nat:=1048576
abbrev O2:=Option (AV×Mem)
abbrev FnT:=xsj->FHs->List AV->Mem->O2
abbrev FxKlm9:=xsj->FHs->Nat->Id->AV->AV->AV->AV->AV->AV->AV->AV->AV->Mem->Nat->Option Mem
abbrev xvu:=AV->AV->AV->AV->AV->AV->AV->AV->AV->AV->Mem->Nat->O2
abbrev xti:=AV->AV->Mem->Nat->O2
abbrev xur:=AV->AV->AV->Mem->Nat->O2
abbrev xss:=AV->AV->AV->AV->Mem->Nat->O2
abbrev xsp:=AV->AV->AV->AV->AV->Mem->Nat->O2
abbrev xst:=AV->AV->AV->AV->AV->AV->Mem->Nat->O2
abbrev xtb:=AV->AV->AV->AV->AV->AV->AV->Mem->Nat->O2
abbrev xu5:=AV->AV->AV->AV->AV->AV->AV->AV->Mem->Nat->O2
abbrev xuy:=AV->AV->AV->AV->AV->AV->AV->AV->AV->Mem->Nat->O2
abbrev FxKtm2:=xsj->FHs->Nat->AV->AV->Mem->Nat->Option Mem
abbrev FxKtm4:=xsj->FHs->Nat->AV->AV->AV->AV->Mem->Nat->Option Mem
abbrev FxKtm7:=xsj->FHs->Nat->AV->AV->AV->AV->AV->AV->AV->Mem->Nat->Option Mem
abbrev xv7:=xsj->FHs->Nat->Mem->Nat->O2
abbrev xt0:=xsj->FHs->Nat->AV->Mem->Nat->O2
abbrev xsz:=xsj->FHs->Nat->AV->AV->Mem->Nat->O2
abbrev xtv:=xsj->FHs->Nat->AV->AV->AV->Mem->Nat->O2
abbrev xuq:=xsj->FHs->Nat->AV->AV->AV->AV->Mem->Nat->O2
abbrev xzd:=xsj->FHs->Nat->AV->AV->AV->AV->AV->Mem->Nat->O2
abbrev FxKtr6:=xsj->FHs->Nat->AV->AV->AV->AV->AV->AV->Mem->Nat->O2
abbrev FxKtr7:=xsj->FHs->Nat->AV->AV->AV->AV->AV->AV->AV->Mem->Nat->O2
abbrev FxKtr8:=xsj->FHs->Nat->AV->AV->AV->AV->AV->AV->AV->AV->Mem->Nat->O2
def x6j:FuncId:=4
def xga:FuncId:=5
def x25:FuncId:=6
def x26:FuncId:=7
def xf:FuncId:=8
def x10:FuncId:=10
def x27:FuncId:=11
def xo:FuncId:=12
def x28:FuncId:=14
def x29:FuncId:=17
def x11:FuncId:=18
def x43:FuncId:=19
def xh:FuncId:=20
def x2a:FuncId:=21
def xq:FuncId:=22
def x2b:FuncId:=23
def x2c:FuncId:=24
def x2d:FuncId:=25
def x2e:FuncId:=27
def x1f:FuncId:=28
def xi:FuncId:=29
def x1g:FuncId:=30
def x1h:FuncId:=31
def x2f:FuncId:=32
def x12:FuncId:=33
def x13:FuncId:=35
def x14:FuncId:=36
def x2g:FuncId:=37
def x1i:FuncId:=38
def x44:FuncId:=39
def x15:FuncId:=40
def x1j:FuncId:=41
def x45:FuncId:=42
def x46:FuncId:=43
def x2h:FuncId:=44
def xr:FuncId:=45
def x1k:FuncId:=47
def x47:FuncId:=48
def x48:FuncId:=49
def x2i:FuncId:=50
def x49:FuncId:=51
def x4a:FuncId:=52
def x4b:FuncId:=53
def x4c:FuncId:=54
def x4d:FuncId:=55
def x4e:FuncId:=56
def x2j:FuncId:=58
def x2k:FuncId:=59
def x16:FuncId:=60
def x2l:FuncId:=61
def x2m:FuncId:=62
def x2n:FuncId:=63
def xt:FuncId:=64
def x2o:FuncId:=65
def x4f:FuncId:=66
def x4g:FuncId:=67
def x1l:FuncId:=68
def x2p:FuncId:=69
def x1e:FuncId:=70
def x2q:FuncId:=71
def x2r:FuncId:=72
def x2s:FuncId:=73
def x2t:FuncId:=74
def xm:FuncId:=75
def x17:FuncId:=76
def x4h:FuncId:=77
def x2u:FuncId:=78
def x4i:FuncId:=79
def xu:FuncId:=80
def x4j:FuncId:=81
def x2v:FuncId:=82
def x4k:FuncId:=83
def x2w:FuncId:=84
def x4l:FuncId:=85
def x4m:FuncId:=86
def x2x:FuncId:=87
def x4n:FuncId:=88
def x18:FuncId:=89
def x2y:FuncId:=90
def x2z:FuncId:=91
def x30:FuncId:=92
def xz:FuncId:=93
def x31:FuncId:=94
def x4o:FuncId:=95
def x42:FuncId:=96
def x41:FuncId:=97
def x4p:FuncId:=98
def x32:FuncId:=99
def x4q:FuncId:=100
def x33:FuncId:=101
def x34:FuncId:=102
def x6l:FuncId:=103
def x35:FuncId:=104
def x4r:FuncId:=105
def x4s:FuncId:=106
def x4t:FuncId:=107
def xc:FuncId:=108
def x24:FuncId:=109
def x4u:FuncId:=110
def x1d:FuncId:=111
def x4v:FuncId:=112
def x1m:FuncId:=113
def x36:FuncId:=114
def xls:FuncId:=115
def x4w:FuncId:=116
def xp6:FuncId:=117
def xp5:FuncId:=118
def xp4:FuncId:=119
def xp3:FuncId:=120
def xp2:FuncId:=121
def x37:FuncId:=122
def xp0:FuncId:=123
def xp1:FuncId:=124
def xp8:FuncId:=125
def x4x:FuncId:=126
def x4y:FuncId:=127
def xv:FuncId:=128
def x40:FuncId:=129
def xp:FuncId:=130
def x38:FuncId:=137
def xl7:FuncId:=138
def x23:FuncId:=139
def xtg:TypeId:=3
def x7l:TypeId:=4
def x8:TypeId:=5
def xb:TypeId:=9
def x5:TypeId:=22
def x6:TypeId:=23
def x3y:TypeId:=25
def x4:TypeId:=26
def x6i:TypeId:=28
def xg:TypeId:=29
def xla:TypeId:=31
def xl:TypeId:=53
def xlz:TypeId:=55
def xg8:TypeId:=63
def xsc:TypeId:=70
def xhh:TypeId:=71
def x7:TypeId:=77
def xm0:TypeId:=90
def xm1:TypeId:=92
def x5b:TypeId:=98
def xde:TypeId:=101
def xsd:TypeId:=109
def xse:TypeId:=110
def x1q:TypeId:=114
def x3z:TypeId:=117
def xsf:TypeId:=122
def xsg:TypeId:=124
def x73:TypeId:=139
def xiq:TypeId:=141
def xe:TypeId:=153
def xm2:TypeId:=159
def xsh:TypeId:=162
def xp7:TypeId:=175
def x3w:TypeId:=177
def x7a:TypeId:=178
noncomputable def xtr:List AV:=(zeroCells Tryz.prog xtg).getD []
noncomputable def x1a:List AV:=(zeroCells Tryz.prog x7l).getD []
noncomputable def xgh:List AV:=(zeroCells Tryz.prog x3y).getD []
noncomputable def xw:List AV:=(zeroCells Tryz.prog x4).getD []
noncomputable def x39:List AV:=(zeroCells Tryz.prog x6i).getD []
noncomputable def x50:List AV:=(zeroCells Tryz.prog xg).getD []
noncomputable def xd:List AV:=(zeroCells Tryz.prog xlz).getD []
noncomputable def x1n:List AV:=(zeroCells Tryz.prog xsc).getD []
noncomputable def xlm:List AV:=(zeroCells Tryz.prog xhh).getD []
noncomputable def xa:List AV:=(zeroCells Tryz.prog x7).getD []
noncomputable def xj:List AV:=(zeroCells Tryz.prog xm0).getD []
noncomputable def x6s:List AV:=(zeroCells Tryz.prog xm1).getD []
noncomputable def x9:List AV:=(zeroCells Tryz.prog xde).getD []
noncomputable def xln:List AV:=(zeroCells Tryz.prog xsd).getD []
noncomputable def xh8:List AV:=(zeroCells Tryz.prog xse).getD []
noncomputable def x1o:List AV:=(zeroCells Tryz.prog x3z).getD []
noncomputable def xlq:List AV:=(zeroCells Tryz.prog xsf).getD []
noncomputable def xlp:List AV:=(zeroCells Tryz.prog xsg).getD []
noncomputable def xlo:List AV:=(zeroCells Tryz.prog x73).getD []
noncomputable def x75:List AV:=(zeroCells Tryz.prog xm2).getD []
noncomputable def x6b:List AV:=(zeroCells Tryz.prog xsh).getD []
end Go.Ix
