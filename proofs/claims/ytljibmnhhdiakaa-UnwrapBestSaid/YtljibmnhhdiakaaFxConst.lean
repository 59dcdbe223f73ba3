import Derived.Test.YtljibmnhhdiakaaFxDefs
import Derived.Test.YtljibmnhhdiakaaProg
namespace Go.Ix
open Go.Proofs
def pol:Pol:=fun f t=>match f with
 | 17=>if t=18 then 1 else if t=32 then 3 else 0
 | 32=>if t=51 then 1 else if t=54 then 4 else if t=61 then 4 else 0
 | 39=>if t=28 then 3 else 0
 | 42=>if t=22 then 1 else if t=32 then 1 else if t=71 then 3 else 0
 | 52=>if t=21 then 3 else 0
 | 53=>if t=21 then 2 else 0
 | 58=>if t=19 then 2 else 0
 | 64=>if t=12 then 1 else if t=17 then 2 else if t=22 then 2 else 0
 | 73=>if t=8 then 2 else 0
 | 75=>if t=24 then 1 else 0
 | 79=>if t=52 then 2 else 0
 | 80=>if t=9 then 4 else 0
 | 81=>if t=7 then 1 else if t=17 then 4 else if t=25 then 2 else 0
 | 83=>if t=140 then 1 else 0
 | 84=>if t=7 then 2 else 0
 | 95=>if t=18 then 2 else 0
 | 104=>if t=16 then 2 else 0
 | 106=>if t=15 then 4 else 0
 | 110=>if t=10 then 2 else 0
 | 113=>if t=12 then 1 else if t=40 then 2 else 0
 | 114=>if t=18 then 2 else 0
 | 115=>if t=19 then 1 else if t=86 then 2 else 0
 | 116=>if t=51 then 2 else 0
 | 120=>if t=49 then 2 else 0
 | 126=>if t=72 then 2 else 0
 | _=>0
def NN:Nat:=1048576
abbrev O2:=Option (AV×Mem)
def xbd:FuncId:=3
def xbe:FuncId:=4
def xbf:FuncId:=6
def x6k:FuncId:=8
def xbg:FuncId:=9
def xbh:FuncId:=10
def xbi:FuncId:=11
def x15:FuncId:=15
def x47:FuncId:=16
def x5p:FuncId:=17
def x1d:FuncId:=18
def x2y:FuncId:=19
def x6l:FuncId:=20
def x2z:FuncId:=21
def x48:FuncId:=22
def x49:FuncId:=23
def x4a:FuncId:=24
def x4b:FuncId:=25
def x8j:FuncId:=26
def x2b:FuncId:=27
def x30:FuncId:=28
def x1s:FuncId:=29
def x6m:FuncId:=30
def x31:FuncId:=31
def x8o:FuncId:=32
def x2c:FuncId:=34
def xb:FuncId:=36
def x4c:FuncId:=38
def x5q:FuncId:=39
def xf:FuncId:=40
def x8s:FuncId:=41
def x32:FuncId:=42
def x5s:FuncId:=43
def x4d:FuncId:=44
def x5t:FuncId:=45
def x5u:FuncId:=46
def x8x:FuncId:=47
def x4e:FuncId:=48
def x8z:FuncId:=49
def x90:FuncId:=50
def x5v:FuncId:=54
def x4f:FuncId:=55
def x92:FuncId:=58
def x6o:FuncId:=60
def x6p:FuncId:=61
def x2d:FuncId:=62
def x4g:FuncId:=63
def x1t:FuncId:=64
def x2e:FuncId:=65
def x95:FuncId:=66
def x5w:FuncId:=67
def x4h:FuncId:=68
def x1e:FuncId:=69
def x4i:FuncId:=70
def x4j:FuncId:=71
def x4k:FuncId:=72
def x4l:FuncId:=73
def x33:FuncId:=74
def x34:FuncId:=75
def x4m:FuncId:=76
def x4n:FuncId:=77
def xe:FuncId:=78
def x4o:FuncId:=79
def x5x:FuncId:=80
def x9h:FuncId:=81
def x4p:FuncId:=83
def x2f:FuncId:=84
def x9j:FuncId:=85
def x4q:FuncId:=86
def x10:FuncId:=87
def x4r:FuncId:=88
def x9l:FuncId:=89
def x9m:FuncId:=90
def x2w:FuncId:=91
def x9n:FuncId:=92
def x6r:FuncId:=93
def x9o:FuncId:=95
def x5n:FuncId:=97
def x5y:FuncId:=98
def x4s:FuncId:=99
def x5z:FuncId:=100
def x9s:FuncId:=101
def x9t:FuncId:=102
def x4t:FuncId:=103
def x29:FuncId:=104
def x2a:FuncId:=105
def x4u:FuncId:=106
def x2x:FuncId:=107
def x60:FuncId:=108
def x61:FuncId:=109
def x4v:FuncId:=110
def x4w:FuncId:=111
def x4x:FuncId:=112
def x4y:FuncId:=113
def x2v:FuncId:=114
def x1r:FuncId:=115
def x88:FuncId:=116
def x62:FuncId:=117
def x2g:FuncId:=118
def xbn:FuncId:=119
def x35:FuncId:=120
def x1u:FuncId:=121
def x1q:FuncId:=122
def x5m:FuncId:=123
def xa5:FuncId:=124
def x63:FuncId:=125
def x46:FuncId:=126
def xa6:FuncId:=127
def x87:FuncId:=128
def x1ri:TypeId:=3
def xck:TypeId:=4
def x7:TypeId:=22
def x7x:TypeId:=24
def x5:TypeId:=27
def xiz:TypeId:=38
def xj0:TypeId:=40
def xgu:TypeId:=50
def xe8:TypeId:=64
def xza:TypeId:=81
def xc9:TypeId:=94
def xnk:TypeId:=97
def xd5:TypeId:=102
def x12c:TypeId:=104
def x59:TypeId:=133
def xnl:TypeId:=142
def xmz:TypeId:=144
def xnm:TypeId:=147
def x12d:TypeId:=150
def xr:TypeId:=155
def x5k:TypeId:=159
def xa:TypeId:=162
noncomputable def x1q0:List AV:=(zeroCells Try.prog x1ri).getD []
noncomputable def xnb:List AV:=(zeroCells Try.prog xck).getD []
noncomputable def xo:List AV:=(zeroCells Try.prog x7x).getD []
noncomputable def x18:List AV:=(zeroCells Try.prog x5).getD []
noncomputable def xp:List AV:=(zeroCells Try.prog xiz).getD []
noncomputable def x6z:List AV:=(zeroCells Try.prog xj0).getD []
noncomputable def x66:List AV:=(zeroCells Try.prog xgu).getD []
noncomputable def x6e:List AV:=(zeroCells Try.prog xe8).getD []
noncomputable def x6:List AV:=(zeroCells Try.prog xc9).getD []
noncomputable def x16:List AV:=(zeroCells Try.prog xnk).getD []
noncomputable def xi1:List AV:=(zeroCells Try.prog xd5).getD []
noncomputable def xna:List AV:=(zeroCells Try.prog x12c).getD []
noncomputable def x7c:List AV:=(zeroCells Try.prog xnl).getD []
noncomputable def x5e:List AV:=(zeroCells Try.prog xnm).getD []
noncomputable def x7o:List AV:=(zeroCells Try.prog x12d).getD []
end Go.Ix
