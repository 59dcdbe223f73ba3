import Derived.Test.YtjngclcijnpooaaGreatDoorFxDefs
import Derived.Test.YtjngclcijnpooaaGreatDoorProg
set_option linter.all false
open Go.Proofs.Tryz
noncomputable section
namespace Go.Ix
open Go.Proofs
def pol:Pol:=λf t=>match f with
 |3=>if t=125 then 7 else 0
 |5=>if t=62 then 2 else if t=106 then 2 else if t=120 then 2 else 0
 |11=>if t=28 then 7 else 0
 |14=>if t=16 then 2 else if t=22 then 7 else 0
 |19=>if t=23 then 1 else 0
 |25=>if t=34 then 2 else if t=36 then 2 else 0
 |26=>if t=22 then 1 else 0
 |27=>if t=13 then 1 else if t=42 then 2 else 0
 |29=>if t=21 then 2 else 0
 |30=>if t=9 then 2 else 0
 |34=>if t=30 then 7 else 0
 |35=>if t=29 then 7 else 0
 |36=>if t=35 then 7 else 0
 |37=>if t=20 then 2 else if t=30 then 2 else 0
 |38=>if t=11 then 7 else 0
 |40=>if t=41 then 7 else if t=87 then 7 else if t=118 then 7 else 0
 |43=>if t=31 then 7 else 0
 |44=>if t=14 then 2 else if t=36 then 2 else 0
 |53=>if t=1000000 then 1 else 0
 |63=>if t=23 then 7 else if t=64 then 2 else if t=77 then 2 else if t=87 then 6 else 0
 |69=>if t=16 then 2 else 0
 |77=>if t=17 then 2 else 0
 |84=>if t=38 then 2 else 0
 |86=>if t=11 then 7 else 0
 |90=>if t=23 then 2 else 0
 |94=>if t=16 then 2 else 0
 |98=>if t=68 then 8 else if t=98 then 2 else 0
 |99=>if t=49 then 2 else if t=57 then 2 else 0
 |116=>if t=16 then 2 else 0
 |124=>if t=18 then 2 else 0
 |126=>if t=20 then 2 else 0
 |127=>if t=14 then 2 else 0
 |128=>if t=18 then 2 else 0
 |142=>if t=35 then 2 else 0
 |143=>if t=12 then 1 else if t=27 then 2 else 0
 |157=>if t=1000000 then 2 else 0
 |164=>if t=7 then 2 else 0
 |168=>if t=23 then 2 else if t=28 then 1 else if t=42 then 2 else if t=49 then 2 else 0
 |169=>if t=42 then 2 else 0
 |187=>if t=16 then 2 else 0
 |188=>if t=8 then 2 else 0
 |191=>if t=10 then 2 else 0
 |192=>if t=38 then 2 else 0
 |205=>if t=18 then 2 else if t=27 then 2 else if t=43 then 2 else if t=60 then 2 else 0
 |207=>if t=27 then 2 else if t=33 then 2 else if t=39 then 2 else if t=46 then 2 else if t=54 then 2 else if t=72 then 2 else if t=92 then 2 else if t=99 then 2 else if t=121 then 2 else if t=132 then 2 else 0
 |214=>if t=7 then 7 else 0
 |216=>if t=32 then 2 else 0
 |217=>if t=49 then 2 else if t=101 then 2 else if t=169 then 2 else if t=191 then 2 else if t=205 then 2 else if t=219 then 2 else 0
 |219=>if t=26 then 2 else if t=55 then 2 else 0
 |220=>if t=36 then 2 else 0
 |221=>if t=37 then 2 else if t=40 then 2 else if t=43 then 2 else if t=48 then 2 else 0
 |230=>if t=16 then 2 else 0
 |231=>if t=31 then 2 else if t=46 then 2 else if t=57 then 2 else 0
 |235=>if t=14 then 2 else 0
 |236=>if t=16 then 2 else if t=24 then 2 else if t=32 then 2 else 0
 |257=>if t=24 then 7 else if t=62 then 6 else 0
 |260=>if t=13 then 7 else if t=19 then 7 else if t=25 then 7 else if t=56 then 7 else if t=68 then 6 else 0
 |261=>if t=9 then 7 else 0
 |262=>if t=7 then 7 else 0
 |266=>if t=16 then 2 else 0
 |267=>if t=15 then 7 else if t=30 then 8 else 0
 |268=>if t=14 then 7 else if t=20 then 7 else if t=53 then 7 else if t=60 then 6 else 0
 |269=>if t=7 then 7 else 0
 |272=>if t=16 then 2 else 0
 |273=>if t=12 then 7 else if t=39 then 6 else if t=51 then 2 else 0
 |277=>if t=12 then 7 else if t=40 then 8 else if t=42 then 2 else 0
 |278=>if t=10 then 2 else if t=28 then 2 else 0
 |_=>0
def NN:Nat:=18446744073709551616
abbrev O2:=Option (AV×Mem)
abbrev aU:=aK->FHs->List AV->Mem->O2
abbrev ydg:=AV->AV->AV->AV->AV->AV->AV->AV->AV->AV->Mem->Nat->O2
abbrev ydf:=AV->AV->AV->AV->AV->AV->AV->AV->AV->AV->AV->Mem->Nat->O2
abbrev lV:=AV->AV->Mem->Nat->O2
abbrev dK:=AV->AV->AV->Mem->Nat->O2
abbrev bZ:=AV->AV->AV->AV->Mem->Nat->O2
abbrev dE:=AV->AV->AV->AV->AV->Mem->Nat->O2
abbrev eB:=AV->AV->AV->AV->AV->AV->Mem->Nat->O2
abbrev gY:=AV->AV->AV->AV->AV->AV->AV->Mem->Nat->O2
abbrev oD:=AV->AV->AV->AV->AV->AV->AV->AV->Mem->Nat->O2
abbrev pD:=AV->AV->AV->AV->AV->AV->AV->AV->AV->Mem->Nat->O2
abbrev kc:=aK->FHs->Nat->AV->AV->Mem->Nat->Option Mem
abbrev xlb:=aK->FHs->Nat->AV->AV->AV->Mem->Nat->Option Mem
abbrev yde:=aK->FHs->Nat->AV->AV->AV->AV->Mem->Nat->Option Mem
abbrev kb:=aK->FHs->Nat->AV->AV->AV->AV->AV->AV->Mem->Nat->Option Mem
abbrev HL:=aK->FHs->Nat->AV->AV->AV->AV->AV->AV->AV->Mem->Nat->Option Mem
abbrev ydd:=aK->FHs->Nat->AV->AV->AV->AV->AV->AV->AV->AV->Mem->Nat->Option Mem
abbrev iM:=aK->FHs->Nat->Mem->Nat->O2
abbrev cI:=aK->FHs->Nat->AV->Mem->Nat->O2
abbrev bR:=aK->FHs->Nat->AV->AV->Mem->Nat->O2
abbrev gB:=aK->FHs->Nat->AV->AV->AV->Mem->Nat->O2
abbrev nA:=aK->FHs->Nat->AV->AV->AV->AV->Mem->Nat->O2
abbrev xla:=aK->FHs->Nat->AV->AV->AV->AV->AV->Mem->Nat->O2
abbrev OH:=aK->FHs->Nat->AV->AV->AV->AV->AV->AV->Mem->Nat->O2
abbrev xk9:=aK->FHs->Nat->AV->AV->AV->AV->AV->AV->AV->Mem->Nat->O2
def LM:FuncId:=3
def bv:FuncId:=6
def T1:FuncId:=7
def EZ:FuncId:=8
def R3:FuncId:=9
def T7:FuncId:=10
def T0:FuncId:=11
def sP:FuncId:=12
def wG:FuncId:=13
def C3:FuncId:=14
def uX:FuncId:=15
def S7:FuncId:=16
def FK:FuncId:=17
def EG:FuncId:=18
def rR:FuncId:=22
def EF:FuncId:=34
def EC:FuncId:=35
def ED:FuncId:=36
def wH:FuncId:=37
def oO:FuncId:=38
def wN:FuncId:=39
def yR:FuncId:=40
def B8:FuncId:=41
def wL:FuncId:=42
def B9:FuncId:=43
def Q8:FuncId:=47
def Q7:FuncId:=49
def DH:FuncId:=53
def sO:FuncId:=57
def EQ:FuncId:=58
def ER:FuncId:=63
def C8:FuncId:=66
def EL:FuncId:=67
def R4:FuncId:=68
def B5:FuncId:=69
def nN:FuncId:=70
def C2:FuncId:=71
def EB:FuncId:=72
def EW:FuncId:=73
def EM:FuncId:=74
def rM:FuncId:=75
def uV:FuncId:=76
def rO:FuncId:=77
def S9:FuncId:=78
def T4:FuncId:=79
def pS:FuncId:=80
def rN:FuncId:=81
def C4:FuncId:=82
def S8:FuncId:=83
def oN:FuncId:=84
def FJ:FuncId:=85
def wK:FuncId:=86
def O0:FuncId:=87
def FC:FuncId:=93
def P8:FuncId:=94
def sQ:FuncId:=95
def yQ:FuncId:=96
def wI:FuncId:=97
def R5:FuncId:=98
def wM:FuncId:=99
def DW:FuncId:=100
def EJ:FuncId:=102
def EI:FuncId:=103
def B7:FuncId:=104
def EV:FuncId:=105
def DM:FuncId:=106
def EA:FuncId:=107
def wE:FuncId:=108
def T3:FuncId:=109
def LO:FuncId:=110
def C7:FuncId:=111
def pV:FuncId:=112
def FE:FuncId:=113
def FG:FuncId:=114
def FF:FuncId:=115
def DU:FuncId:=116
def C1:FuncId:=117
def A9:FuncId:=118
def T2:FuncId:=121
def C5:FuncId:=123
def S6:FuncId:=124
def rP:FuncId:=125
def S0:FuncId:=126
def R9:FuncId:=127
def R8:FuncId:=128
def R7:FuncId:=129
def R6:FuncId:=130
def yP:FuncId:=131
def N9:FuncId:=132
def Q6:FuncId:=133
def N8:FuncId:=134
def Q3:FuncId:=135
def EK:FuncId:=136
def yO:FuncId:=137
def yN:FuncId:=138
def DN:FuncId:=139
def uT:FuncId:=140
def O8:FuncId:=141
def B1:FuncId:=142
def P2:FuncId:=143
def R0:FuncId:=144
def FI:FuncId:=145
def uW:FuncId:=146
def FH:FuncId:=147
def xff:FuncId:=148
def yS:FuncId:=153
def xfe:FuncId:=154
def xz9:FuncId:=155
def xz8:FuncId:=156
def O1:FuncId:=157
def DF:FuncId:=158
def C6:FuncId:=159
def DE:FuncId:=160
def DR:FuncId:=161
def EH:FuncId:=162
def DI:FuncId:=163
def B6:FuncId:=164
def P5:FuncId:=165
def O5:FuncId:=166
def P4:FuncId:=167
def P0:FuncId:=168
def wD:FuncId:=169
def DK:FuncId:=170
def B0:FuncId:=171
def O4:FuncId:=172
def FD:FuncId:=173
def xfg:FuncId:=174
def EX:FuncId:=176
def FA:FuncId:=183
def xzz:FuncId:=184
def DG:FuncId:=185
def DO:FuncId:=186
def B3:FuncId:=187
def DQ:FuncId:=188
def O9:FuncId:=189
def P1:FuncId:=190
def B2:FuncId:=191
def yL:FuncId:=192
def DL:FuncId:=193
def xzy:FuncId:=201
def yT:FuncId:=203
def P3:FuncId:=204
def LN:FuncId:=205
def O7:FuncId:=206
def P6:FuncId:=207
def EY:FuncId:=208
def DJ:FuncId:=213
def DV:FuncId:=214
def nK:FuncId:=215
def P7:FuncId:=216
def xfd:FuncId:=217
def DP:FuncId:=218
def xz4:FuncId:=219
def xz6:FuncId:=220
def xz5:FuncId:=221
def xz0:FuncId:=222
def xz3:FuncId:=223
def T6:FuncId:=224
def xz2:FuncId:=225
def xz1:FuncId:=226
def xz7:FuncId:=227
def B4:FuncId:=230
def T5:FuncId:=237
def EN:FuncId:=257
def uU:FuncId:=258
def Q9:FuncId:=259
def EO:FuncId:=260
def wJ:FuncId:=261
def Q4:FuncId:=262
def pT:FuncId:=263
def DY:FuncId:=264
def C0:FuncId:=265
def P9:FuncId:=266
def ES:FuncId:=267
def EP:FuncId:=268
def Q5:FuncId:=269
def pU:FuncId:=270
def DZ:FuncId:=271
def Q0:FuncId:=272
def ET:FuncId:=273
def yM:FuncId:=274
def DX:FuncId:=275
def DT:FuncId:=276
def EU:FuncId:=277
def Q1:FuncId:=278
def rQ:FuncId:=279
def eE:TypeId:=3
def vQ:TypeId:=4
def gQ:TypeId:=5
def cF:TypeId:=9
def nC:TypeId:=22
def qP:TypeId:=23
def pG:TypeId:=24
def BL:TypeId:=26
def vP:TypeId:=27
def xU:TypeId:=28
def gR:TypeId:=34
def YO:TypeId:=36
def xa7:TypeId:=37
def pF:TypeId:=42
def o7:TypeId:=44
def fG:TypeId:=48
def xT:TypeId:=55
def lX:TypeId:=58
def qQ:TypeId:=59
def K4:TypeId:=60
def xnd:TypeId:=62
def o6:TypeId:=66
def JK:TypeId:=68
def JL:TypeId:=71
def tZ:TypeId:=74
def o5:TypeId:=76
def xa4:TypeId:=99
def xm8:TypeId:=101
def YJ:TypeId:=109
def JM:TypeId:=118
def xS:TypeId:=120
def YN:TypeId:=127
def o0:TypeId:=146
def xnc:TypeId:=148
def xa6:TypeId:=157
def xm9:TypeId:=176
def xa5:TypeId:=185
def BJ:TypeId:=191
def BK:TypeId:=192
def pH:TypeId:=194
def n9:TypeId:=196
def JJ:TypeId:=199
def JF:TypeId:=212
def xm7:TypeId:=214
def JG:TypeId:=216
def JI:TypeId:=218
def JH:TypeId:=220
def YK:TypeId:=221
def YL:TypeId:=222
def lB:TypeId:=231
def xm5:TypeId:=235
def xa2:TypeId:=236
def n8:TypeId:=242
def YI:TypeId:=247
def xa3:TypeId:=248
def xm6:TypeId:=254
def xna:TypeId:=256
def xnb:TypeId:=260
def xm4:TypeId:=264
def YM:TypeId:=288
def iN:List AV:=(zeroCells prog eE).getD []
def JC:List AV:=(zeroCells prog vQ).getD []
def lW:List AV:=(zeroCells prog cF).getD []
def l8:List AV:=(zeroCells prog BL).getD []
def xa1:List AV:=(zeroCells prog xU).getD []
def YB:List AV:=(zeroCells prog gR).getD []
def tY:List AV:=(zeroCells prog YO).getD []
def qO:List AV:=(zeroCells prog xa7).getD []
def BI:List AV:=(zeroCells prog o7).getD []
def YC:List AV:=(zeroCells prog fG).getD []
def JE:List AV:=(zeroCells prog xT).getD []
def BH:List AV:=(zeroCells prog xnd).getD []
def YH:List AV:=(zeroCells prog o6).getD []
def qN:List AV:=(zeroCells prog JK).getD []
def tW:List AV:=(zeroCells prog JL).getD []
def xQ:List AV:=(zeroCells prog tZ).getD []
def l9:List AV:=(zeroCells prog o5).getD []
def jY:List AV:=(zeroCells prog xa4).getD []
def JA:List AV:=(zeroCells prog xm8).getD []
def lK:List AV:=(zeroCells prog YJ).getD []
def xR:List AV:=(zeroCells prog JM).getD []
def xa0:List AV:=(zeroCells prog xnc).getD []
def YG:List AV:=(zeroCells prog xa6).getD []
def vO:List AV:=(zeroCells prog xm9).getD []
def BG:List AV:=(zeroCells prog xa5).getD []
def JB:List AV:=(zeroCells prog pH).getD []
def sD:List AV:=(zeroCells prog JJ).getD []
def BB:List AV:=(zeroCells prog JF).getD []
def l4:List AV:=(zeroCells prog xm7).getD []
def BC:List AV:=(zeroCells prog JG).getD []
def BE:List AV:=(zeroCells prog JI).getD []
def BD:List AV:=(zeroCells prog JH).getD []
def xP:List AV:=(zeroCells prog lB).getD []
def YA:List AV:=(zeroCells prog xm5).getD []
def xau:List AV:=(zeroCells prog xm6).getD []
def YF:List AV:=(zeroCells prog xna).getD []
def JD:List AV:=(zeroCells prog xnb).getD []
end Go.Ix
