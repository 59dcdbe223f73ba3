import Derived.Test.YtjngclcijnpooaaGreatDoorFxDefs
import Derived.Test.YtjngclcijnpooaaGreatDoorProg
set_option linter.all false
open Go.Proofs.Tryz
noncomputable section
namespace Go.Ix
open Go.Proofs
def pol:Pol:=λf t=>match f with
 |3=>if t=125 then 7 else 0
 |4=>if t=244 then 6 else 0
 |5=>if t=62 then 2 else if t=106 then 2 else if t=120 then 2 else 0
 |11=>if t=28 then 7 else 0
 |14=>if t=16 then 2 else if t=22 then 7 else 0
 |19=>if t=23 then 1 else 0
 |25=>if t=34 then 2 else if t=36 then 2 else 0
 |26=>if t=22 then 1 else 0
 |27=>if t=13 then 1 else if t=42 then 2 else 0
 |29=>if t=21 then 2 else 0
 |30=>if t=9 then 2 else 0
 |34=>if t=30 then 7 else 0
 |35=>if t=29 then 7 else 0
 |36=>if t=35 then 7 else 0
 |37=>if t=20 then 2 else if t=30 then 2 else 0
 |38=>if t=11 then 7 else 0
 |40=>if t=41 then 7 else if t=87 then 7 else if t=118 then 7 else 0
 |43=>if t=31 then 7 else 0
 |44=>if t=14 then 2 else if t=36 then 2 else 0
 |53=>if t=1000000 then 1 else 0
 |63=>if t=23 then 7 else if t=64 then 2 else if t=77 then 2 else if t=87 then 6 else 0
 |69=>if t=16 then 2 else 0
 |77=>if t=17 then 2 else 0
 |84=>if t=38 then 2 else 0
 |86=>if t=11 then 7 else 0
 |90=>if t=23 then 2 else 0
 |94=>if t=16 then 2 else 0
 |98=>if t=68 then 8 else if t=98 then 2 else 0
 |99=>if t=49 then 2 else if t=57 then 2 else 0
 |116=>if t=16 then 2 else 0
 |124=>if t=18 then 2 else 0
 |126=>if t=20 then 2 else 0
 |127=>if t=14 then 2 else 0
 |128=>if t=18 then 2 else 0
 |142=>if t=35 then 2 else 0
 |143=>if t=12 then 1 else if t=27 then 2 else 0
 |157=>if t=1000000 then 2 else 0
 |164=>if t=7 then 2 else 0
 |168=>if t=23 then 2 else if t=28 then 1 else if t=42 then 2 else if t=49 then 2 else 0
 |169=>if t=42 then 2 else 0
 |187=>if t=16 then 2 else 0
 |188=>if t=8 then 2 else 0
 |191=>if t=10 then 2 else 0
 |192=>if t=38 then 2 else 0
 |205=>if t=18 then 2 else if t=27 then 2 else if t=43 then 2 else if t=60 then 2 else 0
 |207=>if t=27 then 2 else if t=33 then 2 else if t=39 then 2 else if t=46 then 2 else if t=54 then 2 else if t=72 then 2 else if t=92 then 2 else if t=99 then 2 else if t=121 then 2 else if t=132 then 2 else 0
 |214=>if t=7 then 7 else 0
 |216=>if t=32 then 2 else 0
 |217=>if t=49 then 2 else if t=101 then 2 else if t=169 then 2 else if t=191 then 2 else if t=205 then 2 else if t=219 then 2 else 0
 |219=>if t=26 then 2 else if t=55 then 2 else 0
 |220=>if t=36 then 2 else 0
 |221=>if t=37 then 2 else if t=40 then 2 else if t=43 then 2 else if t=48 then 2 else 0
 |230=>if t=16 then 2 else 0
 |231=>if t=31 then 2 else if t=46 then 2 else if t=57 then 2 else 0
 |235=>if t=14 then 2 else 0
 |236=>if t=16 then 2 else if t=24 then 2 else if t=32 then 2 else 0
 |257=>if t=24 then 7 else if t=62 then 6 else 0
 |260=>if t=13 then 7 else if t=19 then 7 else if t=25 then 7 else if t=56 then 7 else if t=68 then 6 else 0
 |261=>if t=9 then 7 else 0
 |262=>if t=7 then 7 else 0
 |266=>if t=16 then 2 else 0
 |267=>if t=15 then 7 else if t=30 then 8 else 0
 |268=>if t=14 then 7 else if t=20 then 7 else if t=53 then 7 else if t=60 then 6 else 0
 |269=>if t=7 then 7 else 0
 |272=>if t=16 then 2 else 0
 |273=>if t=12 then 7 else if t=39 then 6 else if t=51 then 2 else 0
 |277=>if t=12 then 7 else if t=40 then 8 else if t=42 then 2 else 0
 |278=>if t=10 then 2 else if t=28 then 2 else 0
 |_=>0
def NN:Nat:=18446744073709551616
abbrev O2:=Option (AV×Mem)
abbrev aS:=aJ->FHs->List AV->Mem->O2
abbrev x9w:=AV->AV->AV->AV->AV->AV->AV->AV->AV->AV->Mem->Nat->O2
abbrev x9v:=AV->AV->AV->AV->AV->AV->AV->AV->AV->AV->AV->Mem->Nat->O2
abbrev nV:=AV->AV->Mem->Nat->O2
abbrev hW:=AV->AV->AV->Mem->Nat->O2
abbrev cB:=AV->AV->AV->AV->Mem->Nat->O2
abbrev dS:=AV->AV->AV->AV->AV->Mem->Nat->O2
abbrev dK:=AV->AV->AV->AV->AV->AV->Mem->Nat->O2
abbrev gI:=AV->AV->AV->AV->AV->AV->AV->Mem->Nat->O2
abbrev d4:=AV->AV->AV->AV->AV->AV->AV->AV->Mem->Nat->O2
abbrev oL:=AV->AV->AV->AV->AV->AV->AV->AV->AV->Mem->Nat->O2
abbrev fq:=aJ->FHs->Nat->AV->AV->Mem->Nat->Option Mem
abbrev x9u:=aJ->FHs->Nat->AV->AV->AV->AV->Mem->Nat->Option Mem
abbrev fp:=aJ->FHs->Nat->AV->AV->AV->AV->AV->AV->Mem->Nat->Option Mem
abbrev GC:=aJ->FHs->Nat->AV->AV->AV->AV->AV->AV->AV->Mem->Nat->Option Mem
abbrev x9t:=aJ->FHs->Nat->AV->AV->AV->AV->AV->AV->AV->AV->Mem->Nat->Option Mem
abbrev jI:=aJ->FHs->Nat->Mem->Nat->O2
abbrev cV:=aJ->FHs->Nat->AV->Mem->Nat->O2
abbrev bS:=aJ->FHs->Nat->AV->AV->Mem->Nat->O2
abbrev gB:=aJ->FHs->Nat->AV->AV->AV->Mem->Nat->O2
abbrev pT:=aJ->FHs->Nat->AV->AV->AV->AV->Mem->Nat->O2
abbrev Z7:=aJ->FHs->Nat->AV->AV->AV->AV->AV->Mem->Nat->O2
abbrev MU:=aJ->FHs->Nat->AV->AV->AV->AV->AV->AV->Mem->Nat->O2
abbrev xik:=aJ->FHs->Nat->AV->AV->AV->AV->AV->AV->AV->Mem->Nat->O2
def JT:FuncId:=4
def ZG:FuncId:=6
def R8:FuncId:=7
def R9:FuncId:=8
def sC:FuncId:=12
def sD:FuncId:=13
def B9:FuncId:=16
def EA:FuncId:=17
def R7:FuncId:=19
def R3:FuncId:=20
def C4:FuncId:=21
def yJ:FuncId:=22
def yK:FuncId:=23
def qX:FuncId:=37
def wD:FuncId:=38
def B8:FuncId:=39
def R6:FuncId:=40
def DG:FuncId:=41
def Q9:FuncId:=42
def B0:FuncId:=43
def R0:FuncId:=44
def Q0:FuncId:=45
def CV:FuncId:=46
def yD:FuncId:=47
def CW:FuncId:=48
def yC:FuncId:=49
def CE:FuncId:=53
def sB:FuncId:=57
def DI:FuncId:=58
def B1:FuncId:=63
def CT:FuncId:=69
def B7:FuncId:=70
def B6:FuncId:=71
def DC:FuncId:=72
def DN:FuncId:=73
def DD:FuncId:=74
def qV:FuncId:=75
def uK:FuncId:=76
def qY:FuncId:=77
def R5:FuncId:=78
def S7:FuncId:=79
def pB:FuncId:=80
def qW:FuncId:=81
def C0:FuncId:=82
def R4:FuncId:=83
def yG:FuncId:=84
def DZ:FuncId:=85
def wB:FuncId:=86
def N3:FuncId:=87
def DR:FuncId:=93
def P2:FuncId:=94
def sE:FuncId:=95
def yF:FuncId:=96
def vZ:FuncId:=97
def Q4:FuncId:=98
def wC:FuncId:=99
def CX:FuncId:=100
def DM:FuncId:=105
def CK:FuncId:=106
def DB:FuncId:=107
def vY:FuncId:=108
def S6:FuncId:=109
def JV:FuncId:=110
def C3:FuncId:=111
def pE:FuncId:=112
def DU:FuncId:=113
def DW:FuncId:=114
def DV:FuncId:=115
def CR:FuncId:=116
def B5:FuncId:=117
def z6:FuncId:=118
def S0:FuncId:=121
def C1:FuncId:=123
def B3:FuncId:=124
def qZ:FuncId:=125
def B2:FuncId:=126
def Q8:FuncId:=127
def Q7:FuncId:=128
def Q6:FuncId:=129
def Q5:FuncId:=130
def yE:FuncId:=131
def N2:FuncId:=132
def P9:FuncId:=133
def N1:FuncId:=134
def P6:FuncId:=135
def CL:FuncId:=139
def uI:FuncId:=140
def N8:FuncId:=141
def z8:FuncId:=142
def O4:FuncId:=143
def Q3:FuncId:=144
def DY:FuncId:=145
def uL:FuncId:=146
def DX:FuncId:=147
def xc0:FuncId:=148
def yH:FuncId:=153
def xcz:FuncId:=154
def xwu:FuncId:=155
def xwt:FuncId:=156
def N4:FuncId:=157
def CC:FuncId:=158
def C2:FuncId:=159
def CB:FuncId:=160
def CP:FuncId:=161
def CF:FuncId:=163
def A9:FuncId:=164
def O8:FuncId:=165
def N6:FuncId:=166
def O7:FuncId:=167
def O0:FuncId:=168
def vX:FuncId:=169
def CH:FuncId:=170
def z7:FuncId:=171
def N5:FuncId:=172
def DT:FuncId:=173
def xc1:FuncId:=174
def DO:FuncId:=176
def DQ:FuncId:=183
def xwk:FuncId:=184
def CD:FuncId:=185
def CM:FuncId:=186
def A7:FuncId:=187
def CO:FuncId:=188
def N9:FuncId:=189
def O1:FuncId:=190
def A0:FuncId:=191
def yA:FuncId:=192
def CJ:FuncId:=193
def xwj:FuncId:=201
def yI:FuncId:=203
def O5:FuncId:=204
def JU:FuncId:=205
def N7:FuncId:=206
def O9:FuncId:=207
def DP:FuncId:=208
def CG:FuncId:=213
def CU:FuncId:=214
def nE:FuncId:=215
def P1:FuncId:=216
def xcy:FuncId:=217
def CN:FuncId:=218
def xwp:FuncId:=219
def xwr:FuncId:=220
def xwq:FuncId:=221
def xwl:FuncId:=222
def xwo:FuncId:=223
def S9:FuncId:=224
def xwn:FuncId:=225
def xwm:FuncId:=226
def xws:FuncId:=227
def A8:FuncId:=230
def S8:FuncId:=237
def DE:FuncId:=257
def uJ:FuncId:=258
def Q1:FuncId:=259
def DF:FuncId:=260
def wA:FuncId:=261
def P7:FuncId:=262
def pC:FuncId:=263
def CZ:FuncId:=264
def B4:FuncId:=265
def P3:FuncId:=266
def DJ:FuncId:=267
def DH:FuncId:=268
def P8:FuncId:=269
def pD:FuncId:=270
def DA:FuncId:=271
def P4:FuncId:=272
def DK:FuncId:=273
def yB:FuncId:=274
def CY:FuncId:=275
def CQ:FuncId:=276
def DL:FuncId:=277
def P5:FuncId:=278
def rA:FuncId:=279
def eB:TypeId:=3
def xI:TypeId:=4
def hZ:TypeId:=5
def bK:TypeId:=9
def qB:TypeId:=22
def qA:TypeId:=23
def rP:TypeId:=24
def AP:TypeId:=26
def oN:TypeId:=27
def AQ:TypeId:=28
def iI:TypeId:=34
def yk:TypeId:=36
def ym:TypeId:=37
def pZ:TypeId:=42
def o0:TypeId:=44
def fA:TypeId:=48
def tJ:TypeId:=55
def jN:TypeId:=58
def mW:TypeId:=59
def l9:TypeId:=60
def yj:TypeId:=62
def n9:TypeId:=66
def HT:TypeId:=68
def HU:TypeId:=71
def tI:TypeId:=74
def n8:TypeId:=76
def HR:TypeId:=99
def xkf:TypeId:=101
def WK:TypeId:=109
def HV:TypeId:=118
def tH:TypeId:=120
def WP:TypeId:=127
def l8:TypeId:=146
def xkj:TypeId:=148
def yi:TypeId:=157
def xkg:TypeId:=176
def yh:TypeId:=185
def AN:TypeId:=191
def AO:TypeId:=192
def oO:TypeId:=194
def f9:TypeId:=196
def HS:TypeId:=199
def HM:TypeId:=212
def xke:TypeId:=214
def HN:TypeId:=216
def HQ:TypeId:=218
def HO:TypeId:=220
def WL:TypeId:=221
def WN:TypeId:=222
def kT:TypeId:=231
def xkc:TypeId:=235
def yf:TypeId:=236
def f6:TypeId:=242
def WJ:TypeId:=247
def yg:TypeId:=248
def xkd:TypeId:=254
def xkh:TypeId:=256
def xki:TypeId:=260
def xkb:TypeId:=264
def WO:TypeId:=288
def hY:List AV:=(zeroCells prog eB).getD []
def HK:List AV:=(zeroCells prog xI).getD []
def VY:List AV:=(zeroCells prog hZ).getD []
def oM:List AV:=(zeroCells prog bK).getD []
def d9:List AV:=(zeroCells prog AP).getD []
def ye:List AV:=(zeroCells prog AQ).getD []
def WI:List AV:=(zeroCells prog yk).getD []
def pY:List AV:=(zeroCells prog ym).getD []
def WH:List AV:=(zeroCells prog o0).getD []
def WB:List AV:=(zeroCells prog fA).getD []
def nW:List AV:=(zeroCells prog tJ).getD []
def rO:List AV:=(zeroCells prog yj).getD []
def WG:List AV:=(zeroCells prog n9).getD []
def mV:List AV:=(zeroCells prog HT).getD []
def pX:List AV:=(zeroCells prog HU).getD []
def xH:List AV:=(zeroCells prog tI).getD []
def AM:List AV:=(zeroCells prog n8).getD []
def gQ:List AV:=(zeroCells prog HR).getD []
def yb:List AV:=(zeroCells prog xkf).getD []
def lE:List AV:=(zeroCells prog WK).getD []
def vF:List AV:=(zeroCells prog HV).getD []
def yd:List AV:=(zeroCells prog xkj).getD []
def WF:List AV:=(zeroCells prog yi).getD []
def vE:List AV:=(zeroCells prog xkg).getD []
def AL:List AV:=(zeroCells prog yh).getD []
def HJ:List AV:=(zeroCells prog oO).getD []
def rN:List AV:=(zeroCells prog HS).getD []
def AG:List AV:=(zeroCells prog HM).getD []
def d8:List AV:=(zeroCells prog xke).getD []
def AH:List AV:=(zeroCells prog HN).getD []
def AK:List AV:=(zeroCells prog HQ).getD []
def AJ:List AV:=(zeroCells prog HO).getD []
def xG:List AV:=(zeroCells prog kT).getD []
def WA:List AV:=(zeroCells prog xkc).getD []
def xx:List AV:=(zeroCells prog xkd).getD []
def WD:List AV:=(zeroCells prog xkh).getD []
def HL:List AV:=(zeroCells prog xki).getD []
end Go.Ix
