import Derived.Test.YtljibmnhhdiakaaFxDefs
import Derived.Test.YtljibmnhhdiakaaProg
namespace Go.Ix
open Go.Proofs
def pol:Pol:=fun f t=>match f with
 |17=>if t=18 then 1 else if t=32 then 3 else 0
 |32=>if t=51 then 1 else if t=54 then 4 else if t=61 then 4 else 0
 |39=>if t=28 then 3 else 0
 |42=>if t=22 then 1 else if t=32 then 1 else if t=71 then 3 else 0
 |52=>if t=21 then 3 else 0
 |53=>if t=21 then 2 else 0
 |58=>if t=19 then 2 else 0
 |64=>if t=12 then 1 else if t=17 then 2 else if t=22 then 2 else 0
 |73=>if t=8 then 2 else 0
 |75=>if t=24 then 1 else 0
 |79=>if t=52 then 2 else 0
 |80=>if t=9 then 4 else 0
 |81=>if t=7 then 1 else if t=17 then 4 else if t=25 then 2 else 0
 |83=>if t=140 then 1 else 0
 |84=>if t=7 then 2 else 0
 |95=>if t=18 then 2 else 0
 |104=>if t=16 then 2 else 0
 |106=>if t=15 then 4 else 0
 |110=>if t=10 then 2 else 0
 |113=>if t=12 then 1 else if t=40 then 2 else 0
 |114=>if t=18 then 2 else 0
 |115=>if t=19 then 1 else if t=86 then 2 else 0
 |116=>if t=51 then 2 else 0
 |120=>if t=49 then 2 else 0
 |126=>if t=72 then 2 else 0
 |_=>0
def NN:Nat:=1048576
abbrev O2:=Option (AV×Mem)
def xdm:FuncId:=3
def xdn:FuncId:=4
def xdo:FuncId:=5
def xdp:FuncId:=6
def xdq:FuncId:=7
def xdr:FuncId:=8
def xds:FuncId:=9
def xdt:FuncId:=10
def xdu:FuncId:=11
def xdv:FuncId:=13
def x7j:FuncId:=14
def xw:FuncId:=15
def x3p:FuncId:=16
def x56:FuncId:=17
def xr:FuncId:=18
def x2u:FuncId:=19
def x7k:FuncId:=20
def x6k:FuncId:=21
def x7l:FuncId:=22
def x7m:FuncId:=23
def x7n:FuncId:=24
def x2v:FuncId:=25
def x9r:FuncId:=26
def xx:FuncId:=27
def x2b:FuncId:=28
def x1t:FuncId:=29
def x7o:FuncId:=30
def x1u:FuncId:=31
def x57:FuncId:=32
def x9s:FuncId:=33
def x3q:FuncId:=34
def x9t:FuncId:=35
def x7:FuncId:=36
def x2w:FuncId:=37
def x2c:FuncId:=38
def x58:FuncId:=39
def xi:FuncId:=40
def x7q:FuncId:=41
def x3r:FuncId:=42
def x9u:FuncId:=43
def x9v:FuncId:=44
def x9w:FuncId:=45
def x6l:FuncId:=46
def x9x:FuncId:=47
def x1v:FuncId:=48
def x9y:FuncId:=49
def x9z:FuncId:=50
def x59:FuncId:=52
def x2x:FuncId:=53
def x7r:FuncId:=54
def x6m:FuncId:=55
def x3s:FuncId:=56
def xa0:FuncId:=57
def x3t:FuncId:=58
def x6n:FuncId:=59
def x7s:FuncId:=60
def x7t:FuncId:=61
def x5a:FuncId:=62
def x3u:FuncId:=63
def x1w:FuncId:=64
def x1x:FuncId:=65
def xa3:FuncId:=66
def xa4:FuncId:=67
def x7u:FuncId:=68
def x1j:FuncId:=69
def x5b:FuncId:=70
def x5c:FuncId:=71
def x5d:FuncId:=72
def x5e:FuncId:=73
def x3v:FuncId:=74
def x3w:FuncId:=75
def x5f:FuncId:=76
def x5g:FuncId:=77
def xo:FuncId:=78
def x5h:FuncId:=79
def x2y:FuncId:=80
def x3x:FuncId:=81
def x5i:FuncId:=82
def x5j:FuncId:=83
def x3y:FuncId:=84
def xa5:FuncId:=85
def x5k:FuncId:=86
def x1b:FuncId:=87
def x7v:FuncId:=88
def xa6:FuncId:=89
def xa7:FuncId:=90
def x3m:FuncId:=91
def xa8:FuncId:=92
def x7w:FuncId:=93
def x5l:FuncId:=94
def x3z:FuncId:=95
def x40:FuncId:=96
def x55:FuncId:=97
def xaa:FuncId:=98
def x5m:FuncId:=99
def x7x:FuncId:=100
def x5n:FuncId:=101
def xab:FuncId:=102
def x5o:FuncId:=103
def x3o:FuncId:=104
def x2t:FuncId:=105
def x5p:FuncId:=106
def x3n:FuncId:=107
def x6o:FuncId:=108
def x6p:FuncId:=109
def x5q:FuncId:=110
def x5r:FuncId:=111
def x5s:FuncId:=112
def x5t:FuncId:=113
def x3k:FuncId:=114
def x1s:FuncId:=115
def x3l:FuncId:=116
def x5u:FuncId:=117
def xad:FuncId:=118
def x6q:FuncId:=119
def x41:FuncId:=120
def x2d:FuncId:=121
def x1i:FuncId:=122
def x6j:FuncId:=123
def x6r:FuncId:=124
def x6s:FuncId:=125
def x54:FuncId:=126
def xaf:FuncId:=127
def x9p:FuncId:=128
def x1sq:TypeId:=3
def xb6:TypeId:=4
def x8:TypeId:=22
def xhi:TypeId:=24
def x5:TypeId:=27
def xhj:TypeId:=38
def xnk:TypeId:=40
def x42:TypeId:=50
def x34:TypeId:=64
def x2z:TypeId:=81
def xau:TypeId:=94
def xhk:TypeId:=97
def xbq:TypeId:=102
def x13x:TypeId:=104
def x4h:TypeId:=133
def xnl:TypeId:=142
def xgp:TypeId:=144
def xnm:TypeId:=147
def x13y:TypeId:=150
def x12:TypeId:=155
def x53:TypeId:=159
def xb:TypeId:=162
noncomputable def x1rf:List AV:=(zeroCells Try.prog x1sq).getD []
noncomputable def xnf:List AV:=(zeroCells Try.prog xb6).getD []
noncomputable def xy:List AV:=(zeroCells Try.prog xhi).getD []
noncomputable def x13:List AV:=(zeroCells Try.prog x5).getD []
noncomputable def xt:List AV:=(zeroCells Try.prog xhj).getD []
noncomputable def x6t:List AV:=(zeroCells Try.prog xnk).getD []
noncomputable def xe:List AV:=(zeroCells Try.prog x42).getD []
noncomputable def x11:List AV:=(zeroCells Try.prog x34).getD []
noncomputable def x6:List AV:=(zeroCells Try.prog xau).getD []
noncomputable def xp:List AV:=(zeroCells Try.prog xhk).getD []
noncomputable def xbw:List AV:=(zeroCells Try.prog xbq).getD []
noncomputable def xne:List AV:=(zeroCells Try.prog x13x).getD []
noncomputable def x71:List AV:=(zeroCells Try.prog xnl).getD []
noncomputable def x4o:List AV:=(zeroCells Try.prog xnm).getD []
noncomputable def x7b:List AV:=(zeroCells Try.prog x13y).getD []
end Go.Ix
