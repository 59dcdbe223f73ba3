import Derived.Test.YthfjdkhccimggaaGreatDoorFxDefs
import Derived.Test.YthfjdkhccimggaaGreatDoorProg
namespace Go.Ix
open Go.Proofs
def pol:Pol:=λf t=>match f with
 |9=>if t=28 then 2 else if t=32 then 2 else if t=39 then 2 else if t=77 then 2 else if t=91 then 2 else if t=93 then 2 else if t=115 then 2 else 0
 |13=>if t=116 then 7 else 0
 |36=>if t=41 then 7 else if t=87 then 7 else if t=118 then 7 else 0
 |37=>if t=16 then 2 else if t=22 then 7 else 0
 |47=>if t=32 then 7 else 0
 |50=>if t=46 then 2 else 0
 |52=>if t=21 then 2 else 0
 |53=>if t=9 then 2 else 0
 |54=>if t=13 then 2 else if t=16 then 2 else if t=19 then 2 else if t=38 then 2 else if t=42 then 2 else 0
 |57=>if t=25 then 7 else 0
 |58=>if t=76 then 2 else 0
 |64=>if t=75 then 2 else 0
 |76=>if t=28 then 7 else 0
 |80=>if t=17 then 7 else 0
 |81=>if t=18 then 7 else 0
 |88=>if t=31 then 7 else 0
 |92=>if t=117 then 2 else if t=123 then 2 else 0
 |93=>if t=19 then 2 else if t=30 then 2 else 0
 |98=>if t=20 then 2 else if t=30 then 2 else 0
 |109=>if t=17 then 2 else 0
 |117=>if t=11 then 7 else 0
 |119=>if t=30 then 7 else 0
 |120=>if t=29 then 7 else 0
 |121=>if t=35 then 7 else 0
 |129=>if t=10 then 2 else 0
 |130=>if t=23 then 7 else if t=64 then 2 else if t=77 then 2 else if t=87 then 6 else 0
 |139=>if t=8 then 2 else 0
 |141=>if t=14 then 2 else if t=36 then 2 else 0
 |152=>if t=1000000 then 1 else 0
 |175=>if t=11 then 7 else 0
 |183=>if t=42 then 2 else if t=50 then 2 else if t=57 then 2 else if t=66 then 2 else if t=76 then 2 else 0
 |187=>if t=52 then 2 else if t=91 then 7 else 0
 |196=>if t=16 then 2 else 0
 |198=>if t=38 then 2 else 0
 |204=>if t=27 then 2 else if t=33 then 2 else if t=39 then 2 else if t=46 then 2 else if t=54 then 2 else if t=72 then 2 else if t=92 then 2 else if t=99 then 2 else if t=121 then 2 else if t=132 then 2 else 0
 |206=>if t=16 then 2 else 0
 |210=>if t=68 then 8 else if t=98 then 2 else 0
 |211=>if t=49 then 2 else if t=57 then 2 else 0
 |213=>if t=18 then 2 else if t=27 then 2 else if t=43 then 2 else if t=60 then 2 else 0
 |214=>if t=23 then 2 else 0
 |228=>if t=16 then 2 else 0
 |240=>if t=30 then 7 else if t=59 then 7 else 0
 |259=>if t=26 then 2 else if t=55 then 2 else 0
 |260=>if t=36 then 2 else 0
 |261=>if t=37 then 2 else if t=40 then 2 else if t=43 then 2 else if t=48 then 2 else 0
 |269=>if t=18 then 2 else 0
 |271=>if t=20 then 2 else 0
 |272=>if t=14 then 2 else 0
 |273=>if t=18 then 2 else 0
 |281=>if t=32 then 2 else 0
 |282=>if t=49 then 2 else if t=101 then 2 else if t=169 then 2 else if t=191 then 2 else if t=205 then 2 else if t=219 then 2 else 0
 |293=>if t=35 then 2 else 0
 |294=>if t=12 then 1 else if t=27 then 2 else 0
 |304=>if t=14 then 2 else 0
 |305=>if t=16 then 2 else if t=24 then 2 else if t=32 then 2 else 0
 |307=>if t=1000000 then 2 else 0
 |312=>if t=31 then 2 else if t=46 then 2 else if t=57 then 2 else 0
 |323=>if t=7 then 2 else 0
 |327=>if t=23 then 2 else if t=28 then 1 else if t=42 then 2 else if t=49 then 2 else 0
 |328=>if t=42 then 2 else 0
 |346=>if t=16 then 2 else 0
 |347=>if t=8 then 2 else 0
 |350=>if t=38 then 2 else 0
 |363=>if t=18 then 2 else if t=27 then 2 else if t=43 then 2 else if t=60 then 2 else 0
 |370=>if t=7 then 7 else 0
 |372=>if t=32 then 2 else 0
 |373=>if t=49 then 2 else if t=101 then 2 else if t=169 then 2 else if t=191 then 2 else if t=205 then 2 else if t=219 then 2 else 0
 |376=>if t=16 then 2 else 0
 |377=>if t=31 then 2 else if t=46 then 2 else if t=57 then 2 else 0
 |396=>if t=24 then 7 else if t=62 then 6 else 0
 |399=>if t=13 then 7 else if t=19 then 7 else if t=25 then 7 else if t=56 then 7 else if t=68 then 6 else 0
 |400=>if t=9 then 7 else 0
 |401=>if t=7 then 7 else 0
 |405=>if t=16 then 2 else 0
 |406=>if t=15 then 7 else if t=30 then 8 else 0
 |407=>if t=14 then 7 else if t=20 then 7 else if t=53 then 7 else if t=60 then 6 else 0
 |408=>if t=7 then 7 else 0
 |411=>if t=16 then 2 else 0
 |412=>if t=12 then 7 else if t=39 then 6 else if t=51 then 2 else 0
 |414=>if t=12 then 7 else if t=40 then 8 else if t=42 then 6 else 0
 |415=>if t=10 then 2 else if t=28 then 2 else 0
 |_=>0
def NN:Nat:=18446744073709551616
abbrev O2:=Option (AV×Mem)
abbrev FnT:=x14d->FHs->List AV->Mem->O2
abbrev x16m:=AV->AV->AV->AV->AV->AV->AV->AV->AV->AV->Mem->Nat->O2
abbrev x19d:=AV->AV->AV->AV->AV->AV->AV->AV->AV->AV->AV->Mem->Nat->O2
abbrev x16c:=AV->AV->Mem->Nat->O2
abbrev x14t:=AV->AV->AV->Mem->Nat->O2
abbrev x14h:=AV->AV->AV->AV->Mem->Nat->O2
abbrev x14l:=AV->AV->AV->AV->AV->Mem->Nat->O2
abbrev x14p:=AV->AV->AV->AV->AV->AV->Mem->Nat->O2
abbrev x152:=AV->AV->AV->AV->AV->AV->AV->Mem->Nat->O2
abbrev x18b:=AV->AV->AV->AV->AV->AV->AV->AV->Mem->Nat->O2
abbrev x161:=AV->AV->AV->AV->AV->AV->AV->AV->AV->Mem->Nat->O2
abbrev FxKtm2:=x14d->FHs->Nat->AV->AV->Mem->Nat->Option Mem
abbrev FxKtm4:=x14d->FHs->Nat->AV->AV->AV->AV->Mem->Nat->Option Mem
abbrev FxKtm6:=x14d->FHs->Nat->AV->AV->AV->AV->AV->AV->Mem->Nat->Option Mem
abbrev x1a2:=x14d->FHs->Nat->AV->AV->AV->AV->AV->AV->AV->Mem->Nat->Option Mem
abbrev FxKtm8:=x14d->FHs->Nat->AV->AV->AV->AV->AV->AV->AV->AV->Mem->Nat->Option Mem
abbrev x15c:=x14d->FHs->Nat->Mem->Nat->O2
abbrev x14i:=x14d->FHs->Nat->AV->Mem->Nat->O2
abbrev FxKtr10:=x14d->FHs->Nat->AV->AV->AV->AV->AV->AV->AV->AV->AV->AV->Mem->Nat->O2
abbrev x14j:=x14d->FHs->Nat->AV->AV->Mem->Nat->O2
abbrev x14r:=x14d->FHs->Nat->AV->AV->AV->Mem->Nat->O2
abbrev x15e:=x14d->FHs->Nat->AV->AV->AV->AV->Mem->Nat->O2
abbrev x15u:=x14d->FHs->Nat->AV->AV->AV->AV->AV->Mem->Nat->O2
abbrev x16h:=x14d->FHs->Nat->AV->AV->AV->AV->AV->AV->Mem->Nat->O2
abbrev x17w:=x14d->FHs->Nat->AV->AV->AV->AV->AV->AV->AV->Mem->Nat->O2
abbrev x1a3:=x14d->FHs->Nat->AV->AV->AV->AV->AV->AV->AV->AV->Mem->Nat->O2
abbrev x1a4:=x14d->FHs->Nat->AV->AV->AV->AV->AV->AV->AV->AV->AV->Mem->Nat->O2
def x2i:FuncId:=7
def x1x:FuncId:=18
def x3t:FuncId:=24
def x3u:FuncId:=36
def x3v:FuncId:=40
def x13:FuncId:=43
def x14:FuncId:=44
def xv:FuncId:=45
def x15:FuncId:=46
def x16:FuncId:=47
def x17:FuncId:=48
def xw:FuncId:=49
def x18:FuncId:=57
def x19:FuncId:=66
def x3x:FuncId:=69
def xe:FuncId:=75
def x3y:FuncId:=76
def x2j:FuncId:=85
def x2k:FuncId:=86
def x3z:FuncId:=87
def x40:FuncId:=88
def x41:FuncId:=89
def x2l:FuncId:=90
def x2m:FuncId:=91
def x2n:FuncId:=98
def xb:FuncId:=107
def x1y:FuncId:=108
def xh:FuncId:=109
def x42:FuncId:=110
def x2o:FuncId:=111
def xq:FuncId:=112
def x1z:FuncId:=113
def x43:FuncId:=114
def x44:FuncId:=115
def x45:FuncId:=116
def x46:FuncId:=117
def x47:FuncId:=118
def xx:FuncId:=123
def xy:FuncId:=124
def x20:FuncId:=125
def x1a:FuncId:=126
def x1b:FuncId:=127
def x48:FuncId:=129
def x49:FuncId:=130
def xf:FuncId:=136
def xz:FuncId:=137
def xl:FuncId:=138
def x4a:FuncId:=142
def x1c:FuncId:=149
def x4b:FuncId:=150
def x1d:FuncId:=151
def xe8:FuncId:=152
def x4c:FuncId:=156
def x4d:FuncId:=157
def x4e:FuncId:=161
def x2p:FuncId:=169
def x4f:FuncId:=175
def x2q:FuncId:=176
def x2r:FuncId:=177
def x2s:FuncId:=178
def x4g:FuncId:=179
def x2t:FuncId:=191
def x21:FuncId:=192
def x2u:FuncId:=193
def xg:FuncId:=194
def x4h:FuncId:=195
def x4i:FuncId:=196
def x4j:FuncId:=197
def x4k:FuncId:=198
def x4l:FuncId:=199
def x22:FuncId:=204
def x2v:FuncId:=205
def x4m:FuncId:=206
def x4n:FuncId:=207
def x2w:FuncId:=208
def x23:FuncId:=209
def x4o:FuncId:=210
def x2x:FuncId:=211
def x4p:FuncId:=212
def x4q:FuncId:=217
def x96:FuncId:=218
def x4r:FuncId:=221
def x24:FuncId:=225
def x4s:FuncId:=228
def x4t:FuncId:=229
def x4u:FuncId:=230
def x2y:FuncId:=231
def x10:FuncId:=232
def x4v:FuncId:=249
def xr:FuncId:=250
def x1e:FuncId:=251
def x4w:FuncId:=252
def x4x:FuncId:=253
def x4y:FuncId:=254
def x4z:FuncId:=258
def x50:FuncId:=259
def x51:FuncId:=260
def x52:FuncId:=261
def x53:FuncId:=262
def x54:FuncId:=263
def xa:FuncId:=264
def x55:FuncId:=265
def x56:FuncId:=266
def x57:FuncId:=267
def x2z:FuncId:=268
def x58:FuncId:=269
def x1f:FuncId:=270
def x59:FuncId:=271
def x5a:FuncId:=272
def x5b:FuncId:=273
def x5c:FuncId:=274
def x5d:FuncId:=275
def x30:FuncId:=276
def x5e:FuncId:=277
def x5f:FuncId:=278
def x5g:FuncId:=279
def x5h:FuncId:=280
def x31:FuncId:=283
def x32:FuncId:=285
def x5i:FuncId:=286
def x5j:FuncId:=290
def xt:FuncId:=291
def x5k:FuncId:=292
def x33:FuncId:=293
def x5l:FuncId:=294
def x5m:FuncId:=298
def x5n:FuncId:=299
def x34:FuncId:=301
def x5o:FuncId:=302
def x5p:FuncId:=303
def x25:FuncId:=304
def x35:FuncId:=305
def x36:FuncId:=306
def xxv:FuncId:=307
def x5q:FuncId:=308
def x37:FuncId:=309
def x5r:FuncId:=310
def x5s:FuncId:=311
def xxw:FuncId:=313
def xnl:FuncId:=314
def x5t:FuncId:=315
def x5u:FuncId:=316
def x5v:FuncId:=317
def x5w:FuncId:=318
def x5x:FuncId:=319
def x5y:FuncId:=320
def x5z:FuncId:=322
def x38:FuncId:=323
def x60:FuncId:=324
def x39:FuncId:=325
def x61:FuncId:=326
def x62:FuncId:=327
def x63:FuncId:=328
def x64:FuncId:=329
def x3a:FuncId:=330
def x3b:FuncId:=331
def x26:FuncId:=333
def x97:FuncId:=334
def x98:FuncId:=335
def x65:FuncId:=336
def x66:FuncId:=337
def x67:FuncId:=338
def x68:FuncId:=340
def x69:FuncId:=341
def x6a:FuncId:=342
def x6b:FuncId:=343
def x6c:FuncId:=344
def x6d:FuncId:=345
def x3s:FuncId:=346
def x6e:FuncId:=347
def x6f:FuncId:=348
def x3c:FuncId:=349
def x6g:FuncId:=350
def x6h:FuncId:=351
def x6i:FuncId:=352
def x6j:FuncId:=353
def x6k:FuncId:=354
def x6l:FuncId:=355
def x6m:FuncId:=356
def x3d:FuncId:=357
def x6n:FuncId:=358
def xy2:FuncId:=359
def x6o:FuncId:=360
def x6p:FuncId:=361
def x6q:FuncId:=362
def x6r:FuncId:=363
def x3e:FuncId:=364
def x6s:FuncId:=365
def x1g:FuncId:=366
def x3f:FuncId:=367
def x6t:FuncId:=368
def x6u:FuncId:=369
def x6v:FuncId:=370
def x6w:FuncId:=371
def x3g:FuncId:=372
def x1h:FuncId:=373
def xc:FuncId:=374
def x6x:FuncId:=375
def x6y:FuncId:=376
def x6z:FuncId:=377
def x27:FuncId:=378
def x3r:TypeId:=2
def x14s:TypeId:=3
def x8a:TypeId:=4
def x1:TypeId:=5
def x0:TypeId:=9
def x4:TypeId:=21
def x9g:TypeId:=22
def x74:TypeId:=23
def x73:TypeId:=24
def xs2:TypeId:=26
def x3m:TypeId:=27
def x5:TypeId:=31
def x13p:TypeId:=32
def x71:TypeId:=38
def xp:TypeId:=43
def xxp:TypeId:=44
def x13q:TypeId:=47
def x13r:TypeId:=62
def x13s:TypeId:=66
def x7:TypeId:=72
def xd:TypeId:=80
def xu:TypeId:=81
def x2g:TypeId:=83
def x13t:TypeId:=115
def x13u:TypeId:=117
def x8:TypeId:=131
def xim:TypeId:=134
def x3p:TypeId:=147
def x13v:TypeId:=149
def xs3:TypeId:=152
def xin:TypeId:=154
def xs4:TypeId:=159
def x2f:TypeId:=166
def x13w:TypeId:=168
def xs5:TypeId:=170
def x13x:TypeId:=179
def x13y:TypeId:=181
def x13z:TypeId:=184
def x1w:TypeId:=205
def xs6:TypeId:=207
def x2h:TypeId:=213
def x140:TypeId:=235
def x1u:TypeId:=253
def xjh:TypeId:=282
def xjt:TypeId:=283
def xq9:TypeId:=285
def xio:TypeId:=286
def x3n:TypeId:=288
def x141:TypeId:=291
def x6:TypeId:=304
def xs7:TypeId:=310
def x142:TypeId:=320
def x143:TypeId:=334
def x2:TypeId:=354
def x3:TypeId:=356
def xna:TypeId:=360
def x144:TypeId:=362
def xnf:TypeId:=364
def xnh:TypeId:=366
def xnj:TypeId:=368
def xxt:TypeId:=369
def xxu:TypeId:=370
def x1t:TypeId:=371
def x145:TypeId:=384
def xy1:TypeId:=385
def x146:TypeId:=390
def x12:TypeId:=392
def xxs:TypeId:=397
def x147:TypeId:=400
def x148:TypeId:=419
def x9:TypeId:=425
def x8g:TypeId:=428
def xq2:TypeId:=434
def x149:TypeId:=439
def xy7:TypeId:=448
def x14a:TypeId:=450
def x14b:TypeId:=453
noncomputable def x16b:List AV:=(zeroCells Tryz.prog x14s).getD []
noncomputable def xkn:List AV:=(zeroCells Tryz.prog x8a).getD []
noncomputable def xy5:List AV:=(zeroCells Tryz.prog x1).getD []
noncomputable def xj:List AV:=(zeroCells Tryz.prog x0).getD []
noncomputable def xj6:List AV:=(zeroCells Tryz.prog xs2).getD []
noncomputable def xo1:List AV:=(zeroCells Tryz.prog x5).getD []
noncomputable def x72:List AV:=(zeroCells Tryz.prog x13p).getD []
noncomputable def x1i:List AV:=(zeroCells Tryz.prog x71).getD []
noncomputable def xjv:List AV:=(zeroCells Tryz.prog x13q).getD []
noncomputable def x3i:List AV:=(zeroCells Tryz.prog x13r).getD []
noncomputable def xi:List AV:=(zeroCells Tryz.prog x13s).getD []
noncomputable def x7a:List AV:=(zeroCells Tryz.prog x2g).getD []
noncomputable def xo:List AV:=(zeroCells Tryz.prog x13t).getD []
noncomputable def x3j:List AV:=(zeroCells Tryz.prog x13u).getD []
noncomputable def x28:List AV:=(zeroCells Tryz.prog xim).getD []
noncomputable def x9e:List AV:=(zeroCells Tryz.prog x13v).getD []
noncomputable def xm:List AV:=(zeroCells Tryz.prog xs3).getD []
noncomputable def xn:List AV:=(zeroCells Tryz.prog xin).getD []
noncomputable def xj7:List AV:=(zeroCells Tryz.prog xs4).getD []
noncomputable def xxq:List AV:=(zeroCells Tryz.prog x13w).getD []
noncomputable def x85:List AV:=(zeroCells Tryz.prog xs5).getD []
noncomputable def x8e:List AV:=(zeroCells Tryz.prog x13x).getD []
noncomputable def xxn:List AV:=(zeroCells Tryz.prog x13y).getD []
noncomputable def xxo:List AV:=(zeroCells Tryz.prog x13z).getD []
noncomputable def x11:List AV:=(zeroCells Tryz.prog x1w).getD []
noncomputable def x3k:List AV:=(zeroCells Tryz.prog xs6).getD []
noncomputable def x2a:List AV:=(zeroCells Tryz.prog x2h).getD []
noncomputable def x1r:List AV:=(zeroCells Tryz.prog x140).getD []
noncomputable def xy3:List AV:=(zeroCells Tryz.prog xq9).getD []
noncomputable def x2e:List AV:=(zeroCells Tryz.prog xio).getD []
noncomputable def x3o:List AV:=(zeroCells Tryz.prog x141).getD []
noncomputable def xk:List AV:=(zeroCells Tryz.prog xs7).getD []
noncomputable def xxz:List AV:=(zeroCells Tryz.prog x142).getD []
noncomputable def xxy:List AV:=(zeroCells Tryz.prog x143).getD []
noncomputable def xn9:List AV:=(zeroCells Tryz.prog xna).getD []
noncomputable def x8f:List AV:=(zeroCells Tryz.prog x144).getD []
noncomputable def xne:List AV:=(zeroCells Tryz.prog xnf).getD []
noncomputable def xng:List AV:=(zeroCells Tryz.prog xnh).getD []
noncomputable def xni:List AV:=(zeroCells Tryz.prog xnj).getD []
noncomputable def xlj:List AV:=(zeroCells Tryz.prog x145).getD []
noncomputable def xg0:List AV:=(zeroCells Tryz.prog x146).getD []
noncomputable def xxr:List AV:=(zeroCells Tryz.prog x12).getD []
noncomputable def xxx:List AV:=(zeroCells Tryz.prog x147).getD []
noncomputable def xy0:List AV:=(zeroCells Tryz.prog x148).getD []
noncomputable def x8i:List AV:=(zeroCells Tryz.prog x149).getD []
noncomputable def xy6:List AV:=(zeroCells Tryz.prog x14a).getD []
noncomputable def xy8:List AV:=(zeroCells Tryz.prog x14b).getD []
end Go.Ix
