import Derived.Test.YtljibmnhhdiakaaFxDefs
import Derived.Test.YtljibmnhhdiakaaProg
namespace Go.Ix
open Go.Proofs
def pol : Pol := fun f t => match f with
  | 17 => if t = 18 then 1 else if t = 32 then 3 else 0
  | 32 => if t = 51 then 1 else if t = 54 then 4 else if t = 61 then 4 else 0
  | 39 => if t = 28 then 3 else 0
  | 42 => if t = 22 then 1 else if t = 32 then 1 else if t = 71 then 3 else 0
  | 52 => if t = 21 then 3 else 0
  | 53 => if t = 21 then 2 else 0
  | 58 => if t = 19 then 2 else 0
  | 64 => if t = 12 then 1 else if t = 17 then 2 else if t = 22 then 2 else 0
  | 73 => if t = 8 then 2 else 0
  | 75 => if t = 24 then 1 else 0
  | 79 => if t = 52 then 2 else 0
  | 80 => if t = 9 then 4 else 0
  | 81 => if t = 7 then 1 else if t = 17 then 4 else if t = 25 then 2 else 0
  | 83 => if t = 140 then 1 else 0
  | 84 => if t = 7 then 2 else 0
  | 95 => if t = 18 then 2 else 0
  | 104 => if t = 16 then 2 else 0
  | 106 => if t = 15 then 4 else 0
  | 110 => if t = 10 then 2 else 0
  | 113 => if t = 12 then 1 else if t = 40 then 2 else 0
  | 114 => if t = 18 then 2 else 0
  | 115 => if t = 19 then 1 else if t = 86 then 2 else 0
  | 116 => if t = 51 then 2 else 0
  | 120 => if t = 49 then 2 else 0
  | 126 => if t = 72 then 2 else 0
  | _ => 0
def NN : Nat := 1048576
abbrev O2 := Option (AV × Mem)
def x51 : FuncId := 3
def x93 : FuncId := 6
def x94 : FuncId := 9
def x95 : FuncId := 10
def x96 : FuncId := 11
def x1a : FuncId := 15
def x1t : FuncId := 16
def x1u : FuncId := 17
def xk : FuncId := 18
def x1b : FuncId := 19
def x37 : FuncId := 20
def x38 : FuncId := 21
def x4a : FuncId := 22
def x4b : FuncId := 23
def x4c : FuncId := 24
def x98 : FuncId := 25
def x99 : FuncId := 27
def x70 : FuncId := 28
def x53 : FuncId := 29
def x9a : FuncId := 30
def x71 : FuncId := 32
def x4d : FuncId := 34
def xa : FuncId := 36
def x39 : FuncId := 38
def x4e : FuncId := 39
def xe : FuncId := 40
def x75 : FuncId := 41
def x76 : FuncId := 42
def x4f : FuncId := 46
def x77 : FuncId := 47
def x54 : FuncId := 48
def x78 : FuncId := 49
def x79 : FuncId := 50
def x4g : FuncId := 55
def x7b : FuncId := 58
def x55 : FuncId := 60
def x56 : FuncId := 61
def x1v : FuncId := 62
def x1w : FuncId := 63
def x1c : FuncId := 64
def x1x : FuncId := 65
def x3a : FuncId := 66
def x4h : FuncId := 67
def x3b : FuncId := 68
def x3c : FuncId := 69
def x57 : FuncId := 70
def x58 : FuncId := 71
def x59 : FuncId := 72
def x5a : FuncId := 73
def x5b : FuncId := 74
def x5c : FuncId := 75
def x3d : FuncId := 76
def x9c : FuncId := 77
def xb : FuncId := 78
def x3e : FuncId := 79
def x4i : FuncId := 80
def x7j : FuncId := 81
def x3f : FuncId := 83
def x4j : FuncId := 84
def x7l : FuncId := 85
def x7m : FuncId := 86
def x2c : FuncId := 87
def x7n : FuncId := 88
def x7o : FuncId := 89
def x7p : FuncId := 90
def x48 : FuncId := 91
def x7q : FuncId := 92
def x5d : FuncId := 93
def x7r : FuncId := 95
def x49 : FuncId := 97
def x7s : FuncId := 99
def x4k : FuncId := 100
def x7u : FuncId := 101
def x3g : FuncId := 102
def x3h : FuncId := 103
def x36 : FuncId := 104
def x1s : FuncId := 105
def x3i : FuncId := 106
def x2d : FuncId := 107
def x7y : FuncId := 108
def x7z : FuncId := 109
def x80 : FuncId := 110
def x81 : FuncId := 111
def x5e : FuncId := 112
def x3j : FuncId := 113
def x2b : FuncId := 114
def x19 : FuncId := 115
def x6n : FuncId := 116
def x4l : FuncId := 117
def x84 : FuncId := 118
def x85 : FuncId := 120
def x1d : FuncId := 121
def x18 : FuncId := 122
def x47 : FuncId := 123
def x4m : FuncId := 125
def x35 : FuncId := 126
def x87 : FuncId := 127
def x6m : FuncId := 128
def x1ka : TypeId := 3
def xxu : TypeId := 4
def x5 : TypeId := 22
def xbl : TypeId := 24
def x4 : TypeId := 27
def xg7 : TypeId := 38
def xg8 : TypeId := 40
def xea : TypeId := 50
def xkx : TypeId := 64
def xv3 : TypeId := 81
def x9w : TypeId := 94
def xl3 : TypeId := 97
def xfa : TypeId := 102
def xxv : TypeId := 104
def x3v : TypeId := 133
def xl4 : TypeId := 142
def xk6 : TypeId := 144
def xl5 : TypeId := 147
def xxw : TypeId := 150
def xi : TypeId := 155
def x45 : TypeId := 159
def x8 : TypeId := 162
noncomputable def x1ix : List AV := (zeroCells Try.prog x1ka).getD []
noncomputable def xks : List AV := (zeroCells Try.prog xxu).getD []
noncomputable def x3m : List AV := (zeroCells Try.prog xbl).getD []
noncomputable def x11 : List AV := (zeroCells Try.prog x4).getD []
noncomputable def x1e : List AV := (zeroCells Try.prog xg7).getD []
noncomputable def x8a : List AV := (zeroCells Try.prog xg8).getD []
noncomputable def x4o : List AV := (zeroCells Try.prog xea).getD []
noncomputable def x8e : List AV := (zeroCells Try.prog xkx).getD []
noncomputable def x9 : List AV := (zeroCells Try.prog x9w).getD []
noncomputable def x1f : List AV := (zeroCells Try.prog xl3).getD []
noncomputable def xfg : List AV := (zeroCells Try.prog xfa).getD []
noncomputable def xkm : List AV := (zeroCells Try.prog xxv).getD []
noncomputable def x5z : List AV := (zeroCells Try.prog xl4).getD []
noncomputable def x3z : List AV := (zeroCells Try.prog xl5).getD []
noncomputable def x66 : List AV := (zeroCells Try.prog xxw).getD []
end Go.Ix
