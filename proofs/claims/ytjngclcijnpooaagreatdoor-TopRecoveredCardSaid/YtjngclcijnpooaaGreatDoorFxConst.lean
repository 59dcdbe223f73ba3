import Derived.Test.YtjngclcijnpooaaGreatDoorFxDefs
import Derived.Test.YtjngclcijnpooaaGreatDoorProg
set_option linter.all false
open Go.Proofs.Tryz
noncomputable section
namespace Go.Ix
open Go.Proofs
def pol:Pol:=λf t=>match f with
 |3=>if t=125 then 7 else 0
 |5=>if t=62 then 2 else if t=106 then 2 else if t=120 then 2 else 0
 |11=>if t=28 then 7 else 0
 |14=>if t=16 then 2 else if t=22 then 7 else 0
 |19=>if t=23 then 1 else 0
 |25=>if t=34 then 2 else if t=36 then 2 else 0
 |26=>if t=22 then 1 else 0
 |27=>if t=13 then 1 else if t=42 then 2 else 0
 |29=>if t=21 then 2 else 0
 |30=>if t=9 then 2 else 0
 |34=>if t=30 then 7 else 0
 |35=>if t=29 then 7 else 0
 |36=>if t=35 then 7 else 0
 |37=>if t=20 then 2 else if t=30 then 2 else 0
 |38=>if t=11 then 7 else 0
 |40=>if t=41 then 7 else if t=87 then 7 else if t=118 then 7 else 0
 |43=>if t=31 then 7 else 0
 |44=>if t=14 then 2 else if t=36 then 2 else 0
 |52=>if t=1000000 then 248011 else 0
 |53=>if t=1000000 then 1 else 0
 |54=>if t=1000000 then 248010 else 0
 |63=>if t=23 then 7 else if t=64 then 2 else if t=77 then 2 else if t=87 then 6 else 0
 |69=>if t=16 then 2 else 0
 |77=>if t=17 then 2 else 0
 |84=>if t=38 then 2 else 0
 |86=>if t=11 then 7 else 0
 |90=>if t=23 then 2 else 0
 |94=>if t=16 then 2 else 0
 |98=>if t=68 then 8 else if t=98 then 2 else 0
 |99=>if t=49 then 2 else if t=57 then 2 else 0
 |116=>if t=16 then 2 else 0
 |124=>if t=18 then 2 else 0
 |126=>if t=20 then 2 else 0
 |127=>if t=14 then 2 else 0
 |128=>if t=18 then 2 else 0
 |142=>if t=35 then 2 else 0
 |143=>if t=12 then 1 else if t=27 then 2 else 0
 |157=>if t=1000000 then 2 else 0
 |164=>if t=7 then 2 else 0
 |168=>if t=23 then 2 else if t=28 then 1 else if t=42 then 2 else if t=49 then 2 else 0
 |169=>if t=42 then 2 else 0
 |187=>if t=16 then 2 else 0
 |188=>if t=8 then 2 else 0
 |191=>if t=10 then 2 else 0
 |192=>if t=38 then 2 else 0
 |205=>if t=18 then 2 else if t=27 then 2 else if t=43 then 2 else if t=60 then 2 else 0
 |207=>if t=27 then 2 else if t=33 then 2 else if t=39 then 2 else if t=46 then 2 else if t=54 then 2 else if t=72 then 2 else if t=92 then 2 else if t=99 then 2 else if t=121 then 2 else if t=132 then 2 else 0
 |214=>if t=7 then 7 else 0
 |216=>if t=32 then 2 else 0
 |217=>if t=49 then 2 else if t=101 then 2 else if t=169 then 2 else if t=191 then 2 else if t=205 then 2 else if t=219 then 2 else 0
 |219=>if t=26 then 2 else if t=55 then 2 else 0
 |220=>if t=36 then 2 else 0
 |221=>if t=37 then 2 else if t=40 then 2 else if t=43 then 2 else if t=48 then 2 else 0
 |230=>if t=16 then 2 else 0
 |231=>if t=31 then 2 else if t=46 then 2 else if t=57 then 2 else 0
 |235=>if t=14 then 2 else 0
 |236=>if t=16 then 2 else if t=24 then 2 else if t=32 then 2 else 0
 |257=>if t=24 then 7 else if t=62 then 6 else 0
 |260=>if t=13 then 7 else if t=19 then 7 else if t=25 then 7 else if t=56 then 7 else if t=68 then 6 else 0
 |261=>if t=9 then 7 else 0
 |262=>if t=7 then 7 else 0
 |266=>if t=16 then 2 else 0
 |267=>if t=15 then 7 else if t=30 then 8 else 0
 |268=>if t=14 then 7 else if t=20 then 7 else if t=53 then 7 else if t=60 then 6 else 0
 |269=>if t=7 then 7 else 0
 |272=>if t=16 then 2 else 0
 |273=>if t=12 then 7 else if t=39 then 6 else if t=51 then 2 else 0
 |277=>if t=12 then 7 else if t=40 then 8 else if t=42 then 2 else 0
 |278=>if t=10 then 2 else if t=28 then 2 else 0
 |_=>0
def NN:Nat:=18446744073709551616
abbrev O2:=Option (AV×Mem)
abbrev aR:=aJ->FHs->List AV->Mem->O2
abbrev xlo:=aJ->FHs->Nat->Id->AV->AV->AV->AV->Mem->Nat->Option Mem
abbrev yfg:=AV->AV->AV->AV->AV->AV->AV->AV->AV->AV->Mem->Nat->O2
abbrev yff:=AV->AV->AV->AV->AV->AV->AV->AV->AV->AV->AV->Mem->Nat->O2
abbrev kC:=AV->AV->Mem->Nat->O2
abbrev eF:=AV->AV->AV->Mem->Nat->O2
abbrev cB:=AV->AV->AV->AV->Mem->Nat->O2
abbrev dM:=AV->AV->AV->AV->AV->Mem->Nat->O2
abbrev eB:=AV->AV->AV->AV->AV->AV->Mem->Nat->O2
abbrev gH:=AV->AV->AV->AV->AV->AV->AV->Mem->Nat->O2
abbrev o9:=AV->AV->AV->AV->AV->AV->AV->AV->Mem->Nat->O2
abbrev pF:=AV->AV->AV->AV->AV->AV->AV->AV->AV->Mem->Nat->O2
abbrev ka:=aJ->FHs->Nat->AV->AV->Mem->Nat->Option Mem
abbrev yfe:=aJ->FHs->Nat->AV->AV->AV->AV->Mem->Nat->Option Mem
abbrev jz:=aJ->FHs->Nat->AV->AV->AV->AV->AV->AV->Mem->Nat->Option Mem
abbrev HZ:=aJ->FHs->Nat->AV->AV->AV->AV->AV->AV->AV->Mem->Nat->Option Mem
abbrev yfd:=aJ->FHs->Nat->AV->AV->AV->AV->AV->AV->AV->AV->Mem->Nat->Option Mem
abbrev hY:=aJ->FHs->Nat->Mem->Nat->O2
abbrev cG:=aJ->FHs->Nat->AV->Mem->Nat->O2
abbrev bL:=aJ->FHs->Nat->AV->AV->Mem->Nat->O2
abbrev gG:=aJ->FHs->Nat->AV->AV->AV->Mem->Nat->O2
abbrev qL:=aJ->FHs->Nat->AV->AV->AV->AV->Mem->Nat->O2
abbrev xln:=aJ->FHs->Nat->AV->AV->AV->AV->AV->Mem->Nat->O2
abbrev OQ:=aJ->FHs->Nat->AV->AV->AV->AV->AV->AV->Mem->Nat->O2
abbrev jy:=aJ->FHs->Nat->AV->AV->AV->AV->AV->AV->AV->Mem->Nat->O2
abbrev yfc:=aJ->FHs->Nat->AV->AV->AV->AV->AV->AV->AV->AV->Mem->Nat->O2
def LY:FuncId:=5
def bv:FuncId:=6
def T9:FuncId:=7
def FQ:FuncId:=8
def GD:FuncId:=10
def sN:FuncId:=12
def wD:FuncId:=13
def E5:FuncId:=20
def GE:FuncId:=23
def FN:FuncId:=24
def FK:FuncId:=25
def T4:FuncId:=26
def T5:FuncId:=27
def EV:FuncId:=28
def FM:FuncId:=29
def T6:FuncId:=30
def ET:FuncId:=31
def uS:FuncId:=37
def wJ:FuncId:=38
def D9:FuncId:=39
def zB:FuncId:=40
def D3:FuncId:=41
def T3:FuncId:=42
def MA:FuncId:=45
def EI:FuncId:=46
def yX:FuncId:=47
def EM:FuncId:=48
def yW:FuncId:=49
def FJ:FuncId:=50
def S0:FuncId:=51
def DQ:FuncId:=52
def C5:FuncId:=53
def DR:FuncId:=54
def O8:FuncId:=55
def DO:FuncId:=56
def pR:FuncId:=57
def wE:FuncId:=58
def R7:FuncId:=59
def EK:FuncId:=60
def EL:FuncId:=61
def EJ:FuncId:=62
def D4:FuncId:=63
def EX:FuncId:=64
def EU:FuncId:=65
def EG:FuncId:=69
def D8:FuncId:=70
def FI:FuncId:=71
def ES:FuncId:=72
def FH:FuncId:=73
def EY:FuncId:=74
def rI:FuncId:=75
def uT:FuncId:=76
def rK:FuncId:=77
def T8:FuncId:=78
def U1:FuncId:=79
def pS:FuncId:=80
def rJ:FuncId:=81
def E6:FuncId:=82
def T7:FuncId:=83
def zA:FuncId:=84
def GC:FuncId:=85
def D7:FuncId:=86
def C4:FuncId:=87
def yT:FuncId:=90
def DN:FuncId:=91
def FU:FuncId:=92
def FV:FuncId:=93
def Q7:FuncId:=94
def sO:FuncId:=95
def yZ:FuncId:=96
def wG:FuncId:=97
def S6:FuncId:=98
def wI:FuncId:=99
def EN:FuncId:=100
def EW:FuncId:=101
def FG:FuncId:=105
def DX:FuncId:=106
def ER:FuncId:=107
def wC:FuncId:=108
def U0:FuncId:=109
def MB:FuncId:=110
def F0:FuncId:=111
def pV:FuncId:=112
def FX:FuncId:=113
def FZ:FuncId:=114
def FY:FuncId:=115
def EF:FuncId:=116
def D6:FuncId:=117
def C3:FuncId:=118
def E7:FuncId:=121
def FT:FuncId:=122
def E8:FuncId:=123
def T2:FuncId:=124
def rL:FuncId:=125
def T1:FuncId:=126
def T0:FuncId:=127
def S9:FuncId:=128
def S8:FuncId:=129
def S7:FuncId:=130
def yY:FuncId:=131
def O9:FuncId:=132
def R6:FuncId:=133
def O7:FuncId:=134
def R3:FuncId:=135
def DY:FuncId:=139
def uQ:FuncId:=140
def P5:FuncId:=141
def C7:FuncId:=142
def P9:FuncId:=143
def R9:FuncId:=144
def GB:FuncId:=145
def uU:FuncId:=146
def GA:FuncId:=147
def xft:FuncId:=148
def zC:FuncId:=153
def xfs:FuncId:=154
def x1i:FuncId:=155
def x1h:FuncId:=156
def P1:FuncId:=157
def DM:FuncId:=158
def E9:FuncId:=159
def DL:FuncId:=160
def EC:FuncId:=161
def DT:FuncId:=163
def D1:FuncId:=164
def Q4:FuncId:=165
def P3:FuncId:=166
def Q3:FuncId:=167
def P7:FuncId:=168
def wB:FuncId:=169
def DV:FuncId:=170
def C6:FuncId:=171
def P2:FuncId:=172
def FW:FuncId:=173
def xfu:FuncId:=174
def FO:FuncId:=176
def FR:FuncId:=183
def x08:FuncId:=184
def DP:FuncId:=185
def DZ:FuncId:=186
def C9:FuncId:=187
def EB:FuncId:=188
def P6:FuncId:=189
def P8:FuncId:=190
def C8:FuncId:=191
def yU:FuncId:=192
def DW:FuncId:=193
def x07:FuncId:=201
def zD:FuncId:=203
def Q1:FuncId:=204
def LZ:FuncId:=205
def P4:FuncId:=206
def Q5:FuncId:=207
def FP:FuncId:=208
def DU:FuncId:=213
def EH:FuncId:=214
def nW:FuncId:=215
def Q6:FuncId:=216
def xfr:FuncId:=217
def EA:FuncId:=218
def x1d:FuncId:=219
def x1f:FuncId:=220
def x1e:FuncId:=221
def x09:FuncId:=222
def x1c:FuncId:=223
def U3:FuncId:=224
def x1b:FuncId:=225
def x1a:FuncId:=226
def x1g:FuncId:=227
def D0:FuncId:=230
def U2:FuncId:=237
def EZ:FuncId:=257
def uR:FuncId:=258
def R8:FuncId:=259
def FA:FuncId:=260
def wH:FuncId:=261
def R4:FuncId:=262
def pT:FuncId:=263
def EP:FuncId:=264
def D5:FuncId:=265
def Q8:FuncId:=266
def FD:FuncId:=267
def FC:FuncId:=268
def R5:FuncId:=269
def pU:FuncId:=270
def EQ:FuncId:=271
def Q9:FuncId:=272
def FE:FuncId:=273
def yV:FuncId:=274
def EO:FuncId:=275
def ED:FuncId:=276
def FF:FuncId:=277
def R0:FuncId:=278
def rM:FuncId:=279
def dP:TypeId:=3
def xY:TypeId:=4
def eI:TypeId:=5
def bN:TypeId:=9
def lK:TypeId:=22
def rY:TypeId:=23
def rZ:TypeId:=24
def BR:TypeId:=26
def gX:TypeId:=27
def BS:TypeId:=28
def iQ:TypeId:=34
def xbc:TypeId:=36
def xbd:TypeId:=37
def pI:TypeId:=42
def w9:TypeId:=44
def fE:TypeId:=48
def lL:TypeId:=55
def kJ:TypeId:=58
def mW:TypeId:=59
def sA:TypeId:=60
def xbb:TypeId:=62
def w8:TypeId:=66
def qR:TypeId:=68
def xZ:TypeId:=71
def tT:TypeId:=74
def w7:TypeId:=76
def JW:TypeId:=85
def xns:TypeId:=99
def xnq:TypeId:=101
def xa8:TypeId:=109
def yA:TypeId:=118
def qQ:TypeId:=120
def mF:TypeId:=124
def YU:TypeId:=127
def xnt:TypeId:=144
def tQ:TypeId:=146
def xnw:TypeId:=148
def xba:TypeId:=157
def xnr:TypeId:=176
def xa9:TypeId:=185
def BP:TypeId:=191
def BQ:TypeId:=192
def pJ:TypeId:=194
def w6:TypeId:=196
def KB:TypeId:=199
def JX:TypeId:=212
def xnp:TypeId:=214
def JY:TypeId:=216
def KA:TypeId:=218
def JZ:TypeId:=220
def YR:TypeId:=221
def YS:TypeId:=222
def kK:TypeId:=231
def xnn:TypeId:=235
def xa6:TypeId:=236
def w5:TypeId:=242
def YQ:TypeId:=247
def xa7:TypeId:=248
def xno:TypeId:=254
def xnu:TypeId:=256
def xnv:TypeId:=260
def xnm:TypeId:=264
def YT:TypeId:=288
def gI:List AV:=(zeroCells prog dP).getD []
def JS:List AV:=(zeroCells prog xY).getD []
def pG:List AV:=(zeroCells prog bN).getD []
def v8:List AV:=(zeroCells prog BR).getD []
def xaz:List AV:=(zeroCells prog gX).getD []
def xa5:List AV:=(zeroCells prog BS).getD []
def YP:List AV:=(zeroCells prog xbc).getD []
def qP:List AV:=(zeroCells prog xbd).getD []
def JV:List AV:=(zeroCells prog w9).getD []
def YL:List AV:=(zeroCells prog fE).getD []
def oR:List AV:=(zeroCells prog lL).getD []
def oQ:List AV:=(zeroCells prog xbb).getD []
def JU:List AV:=(zeroCells prog w8).getD []
def pH:List AV:=(zeroCells prog qR).getD []
def tP:List AV:=(zeroCells prog xZ).getD []
def vL:List AV:=(zeroCells prog tT).getD []
def L1:List AV:=(zeroCells prog w7).getD []
def tO:List AV:=(zeroCells prog xns).getD []
def JQ:List AV:=(zeroCells prog xnq).getD []
def xW:List AV:=(zeroCells prog xa8).getD []
def vM:List AV:=(zeroCells prog yA).getD []
def xa3:List AV:=(zeroCells prog xnt).getD []
def L0:List AV:=(zeroCells prog xnw).getD []
def YO:List AV:=(zeroCells prog xba).getD []
def vK:List AV:=(zeroCells prog xnr).getD []
def BO:List AV:=(zeroCells prog xa9).getD []
def JR:List AV:=(zeroCells prog pJ).getD []
def rX:List AV:=(zeroCells prog KB).getD []
def BK:List AV:=(zeroCells prog JX).getD []
def v7:List AV:=(zeroCells prog xnp).getD []
def BL:List AV:=(zeroCells prog JY).getD []
def BN:List AV:=(zeroCells prog KA).getD []
def BM:List AV:=(zeroCells prog JZ).getD []
def xX:List AV:=(zeroCells prog kK).getD []
def YK:List AV:=(zeroCells prog xnn).getD []
def xay:List AV:=(zeroCells prog xno).getD []
def YN:List AV:=(zeroCells prog xnu).getD []
def JT:List AV:=(zeroCells prog xnv).getD []
end Go.Ix
