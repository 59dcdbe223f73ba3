import Derived.Test.YtljibmnhhdiakaaFxDefs
import Derived.Test.YtljibmnhhdiakaaProg
namespace Go.Ix
open Go.Proofs
def pol:Pol:=fun f t=>match f with
 | 17=>if t=18 then 1 else if t=32 then 3 else 0
 | 32=>if t=51 then 1 else if t=54 then 4 else if t=61 then 4 else 0
 | 39=>if t=28 then 3 else 0
 | 42=>if t=22 then 1 else if t=32 then 1 else if t=71 then 3 else 0
 | 52=>if t=21 then 3 else 0
 | 53=>if t=21 then 2 else 0
 | 58=>if t=19 then 2 else 0
 | 64=>if t=12 then 1 else if t=17 then 2 else if t=22 then 2 else 0
 | 73=>if t=8 then 2 else 0
 | 75=>if t=24 then 1 else 0
 | 79=>if t=52 then 2 else 0
 | 80=>if t=9 then 4 else 0
 | 81=>if t=7 then 1 else if t=17 then 4 else if t=25 then 2 else 0
 | 83=>if t=140 then 1 else 0
 | 84=>if t=7 then 2 else 0
 | 95=>if t=18 then 2 else 0
 | 104=>if t=16 then 2 else 0
 | 106=>if t=15 then 4 else 0
 | 110=>if t=10 then 2 else 0
 | 113=>if t=12 then 1 else if t=40 then 2 else 0
 | 114=>if t=18 then 2 else 0
 | 115=>if t=19 then 1 else if t=86 then 2 else 0
 | 116=>if t=51 then 2 else 0
 | 120=>if t=49 then 2 else 0
 | 126=>if t=72 then 2 else 0
 | _=>0
def NN:Nat:=1048576
abbrev O2:=Option (AV×Mem)
def x5e:FuncId:=5
def x9t:FuncId:=6
def x9u:FuncId:=7
def x9v:FuncId:=9
def x9w:FuncId:=10
def x9x:FuncId:=11
def x1d:FuncId:=15
def x26:FuncId:=16
def x2t:FuncId:=17
def xc:FuncId:=18
def x1m:FuncId:=19
def x7g:FuncId:=20
def x7h:FuncId:=21
def x9z:FuncId:=22
def xa0:FuncId:=23
def xa1:FuncId:=25
def xa2:FuncId:=27
def x7i:FuncId:=28
def x5g:FuncId:=29
def xa3:FuncId:=30
def xu:FuncId:=32
def x2u:FuncId:=33
def x27:FuncId:=34
def x3p:FuncId:=35
def x5:FuncId:=36
def x3q:FuncId:=37
def x28:FuncId:=38
def x3r:FuncId:=39
def xh:FuncId:=40
def x5i:FuncId:=41
def x7p:FuncId:=42
def x4t:FuncId:=46
def x7q:FuncId:=47
def x5j:FuncId:=48
def x7r:FuncId:=49
def x7s:FuncId:=50
def x7t:FuncId:=55
def x7u:FuncId:=58
def x5k:FuncId:=60
def x5l:FuncId:=61
def x29:FuncId:=62
def x1n:FuncId:=63
def x11:FuncId:=64
def x2a:FuncId:=65
def x3s:FuncId:=66
def x7z:FuncId:=67
def x2v:FuncId:=68
def x3t:FuncId:=69
def x5m:FuncId:=70
def x5n:FuncId:=71
def x5o:FuncId:=72
def x5p:FuncId:=73
def x5q:FuncId:=74
def x5r:FuncId:=75
def x3u:FuncId:=76
def xa5:FuncId:=77
def xg:FuncId:=78
def x3v:FuncId:=79
def x12:FuncId:=80
def x2w:FuncId:=81
def x3w:FuncId:=82
def x3x:FuncId:=83
def x4u:FuncId:=84
def x84:FuncId:=85
def x85:FuncId:=86
def x2r:FuncId:=87
def x86:FuncId:=88
def x87:FuncId:=89
def x88:FuncId:=90
def x4q:FuncId:=91
def x89:FuncId:=92
def x5s:FuncId:=93
def x8a:FuncId:=95
def x4r:FuncId:=97
def x8b:FuncId:=99
def x8c:FuncId:=100
def x8d:FuncId:=101
def x3y:FuncId:=102
def x3z:FuncId:=103
def x3o:FuncId:=104
def x25:FuncId:=105
def x40:FuncId:=106
def x2s:FuncId:=107
def x8h:FuncId:=108
def x8i:FuncId:=109
def x8j:FuncId:=110
def x8k:FuncId:=111
def x5t:FuncId:=112
def x41:FuncId:=113
def x2p:FuncId:=114
def x1c:FuncId:=115
def x2q:FuncId:=116
def x42:FuncId:=117
def x8n:FuncId:=118
def x8o:FuncId:=120
def x1o:FuncId:=121
def x15:FuncId:=122
def x4p:FuncId:=123
def x4v:FuncId:=125
def x3n:FuncId:=126
def x8q:FuncId:=127
def x78:FuncId:=128
def x1n3:TypeId:=3
def xzt:TypeId:=4
def x6:TypeId:=22
def xch:TypeId:=24
def x4:TypeId:=27
def xh2:TypeId:=38
def xh3:TypeId:=40
def x2x:TypeId:=50
def xm4:TypeId:=64
def xwy:TypeId:=81
def xai:TypeId:=94
def xma:TypeId:=97
def xg9:TypeId:=102
def xzu:TypeId:=104
def x4d:TypeId:=133
def xmb:TypeId:=142
def xgf:TypeId:=144
def xmc:TypeId:=147
def xzv:TypeId:=150
def xr:TypeId:=155
def x4n:TypeId:=159
def x9:TypeId:=162
noncomputable def x1mc:List AV:=(zeroCells Try.prog x1n3).getD []
noncomputable def xm1:List AV:=(zeroCells Try.prog xzt).getD []
noncomputable def x44:List AV:=(zeroCells Try.prog xch).getD []
noncomputable def x16:List AV:=(zeroCells Try.prog x4).getD []
noncomputable def x1p:List AV:=(zeroCells Try.prog xh2).getD []
noncomputable def x8r:List AV:=(zeroCells Try.prog xh3).getD []
noncomputable def xe:List AV:=(zeroCells Try.prog x2x).getD []
noncomputable def x8y:List AV:=(zeroCells Try.prog xm4).getD []
noncomputable def xb:List AV:=(zeroCells Try.prog xai).getD []
noncomputable def x1e:List AV:=(zeroCells Try.prog xma).getD []
noncomputable def xb5:List AV:=(zeroCells Try.prog xg9).getD []
noncomputable def xlv:List AV:=(zeroCells Try.prog xzu).getD []
noncomputable def x6k:List AV:=(zeroCells Try.prog xmb).getD []
noncomputable def x4g:List AV:=(zeroCells Try.prog xmc).getD []
noncomputable def x6s:List AV:=(zeroCells Try.prog xzv).getD []
end Go.Ix
