/- MADE BY PROGRAM (gen.py). What the code does, block by block. -/
import Derived.Test.YtljibmnhhdiakaaFxDefs
import Derived.Test.YtljibmnhhdiakaaProg
namespace Go.Ix
open Go.Proofs
def pol : Pol := fun f t => match f with
  | 17 => if t = 18 then 1 else if t = 32 then 3 else 0
  | 32 => if t = 51 then 1 else if t = 54 then 4 else if t = 61 then 4 else 0
  | 39 => if t = 28 then 3 else 0
  | 42 => if t = 22 then 1 else if t = 32 then 1 else if t = 71 then 3 else 0
  | 52 => if t = 21 then 3 else 0
  | 53 => if t = 21 then 2 else 0
  | 58 => if t = 19 then 2 else 0
  | 64 => if t = 12 then 1 else if t = 17 then 2 else if t = 22 then 2 else 0
  | 73 => if t = 8 then 2 else 0
  | 75 => if t = 24 then 1 else 0
  | 79 => if t = 52 then 2 else 0
  | 80 => if t = 9 then 4 else 0
  | 81 => if t = 7 then 1 else if t = 17 then 4 else if t = 25 then 2 else 0
  | 83 => if t = 140 then 1 else 0
  | 84 => if t = 7 then 2 else 0
  | 95 => if t = 18 then 2 else 0
  | 104 => if t = 16 then 2 else 0
  | 106 => if t = 15 then 4 else 0
  | 110 => if t = 10 then 2 else 0
  | 113 => if t = 12 then 1 else if t = 40 then 2 else 0
  | 114 => if t = 18 then 2 else 0
  | 115 => if t = 19 then 1 else if t = 86 then 2 else 0
  | 116 => if t = 51 then 2 else 0
  | 120 => if t = 49 then 2 else 0
  | 126 => if t = 72 then 2 else 0
  | _ => 0

def NN : Nat := 1048576
def x77 : FuncId := 4
def x18 : FuncId := 11
def x12 : FuncId := 13
def x3a : FuncId := 15
def x1m : FuncId := 16
def x78 : FuncId := 17
def x62 : FuncId := 18
def x63 : FuncId := 19
def x21 : FuncId := 20
def xl : FuncId := 25
def x64 : FuncId := 26
def x3b : FuncId := 27
def xh : FuncId := 28
def xk : FuncId := 29
def x1n : FuncId := 30
def x6 : FuncId := 31
def x7b : FuncId := 32
def x1h : FuncId := 34
def x1i : FuncId := 36
def x66 : FuncId := 39
def x3c : FuncId := 40
def xm : FuncId := 42
def xd : FuncId := 47
def x3d : FuncId := 48
def x68 : FuncId := 49
def xx : FuncId := 50
def x69 : FuncId := 52
def x4p : FuncId := 53
def xy : FuncId := 54
def x1o : FuncId := 55
def x1s : FuncId := 56
def x15 : FuncId := 57
def x7f : FuncId := 58
def x6a : FuncId := 60
def x2g : FuncId := 61
def x3e : FuncId := 62
def x4a : FuncId := 63
def xa : FuncId := 64
def x19 : FuncId := 65
def x1a : FuncId := 66
def xr : FuncId := 69
def x4q : FuncId := 70
def x22 : FuncId := 71
def x4r : FuncId := 72
def x4s : FuncId := 73
def x4b : FuncId := 74
def xi : FuncId := 75
def x4t : FuncId := 76
def x4u : FuncId := 77
def x1l : FuncId := 78
def xz : FuncId := 79
def xv : FuncId := 80
def x1p : FuncId := 81
def x3f : FuncId := 84
def x4v : FuncId := 85
def x7h : FuncId := 86
def x27 : FuncId := 87
def x6b : FuncId := 89
def x6c : FuncId := 90
def x24 : FuncId := 91
def x6d : FuncId := 92
def x4c : FuncId := 93
def x4w : FuncId := 94
def xt : FuncId := 95
def x4d : FuncId := 96
def x4o : FuncId := 97
def x6e : FuncId := 98
def x28 : FuncId := 99
def x4x : FuncId := 100
def x7k : FuncId := 101
def x1q : FuncId := 102
def xn : FuncId := 103
def x1r : FuncId := 104
def x76 : FuncId := 105
def x7 : FuncId := 106
def x49 : FuncId := 107
def x6f : FuncId := 108
def x6g : FuncId := 109
def x4y : FuncId := 110
def x29 : FuncId := 111
def x4z : FuncId := 112
def xb : FuncId := 113
def x39 : FuncId := 114
def x8 : FuncId := 115
def x20 : FuncId := 116
def xo : FuncId := 119
def xg : FuncId := 120
def x10 : FuncId := 121
def x72 : FuncId := 122
def x73 : FuncId := 123
def x6h : FuncId := 124
def x7n : FuncId := 125
def xq : FuncId := 126
def x7o : FuncId := 127
def x74 : FuncId := 128
def y_int : TypeId := 3
def xcz : TypeId := 4
def x1j : TypeId := 22
def x3m : TypeId := 24
def x5 : TypeId := 27
def xby : TypeId := 38
def xbz : TypeId := 40
def xc3 : TypeId := 50
def x5m : TypeId := 64
def x9q : TypeId := 81
def x9s : TypeId := 94
def xc0 : TypeId := 97
def xbr : TypeId := 102
def x15u : TypeId := 104
def xfz : TypeId := 133
def xhm : TypeId := 142
def x15v : TypeId := 150
def x5z : TypeId := 155
def x6n : TypeId := 159
def x13 : TypeId := 162
noncomputable def z_int : List AV := (zeroCells Try.prog y_int).getD []
noncomputable def x136 : List AV := (zeroCells Try.prog xcz).getD []
noncomputable def x2a : List AV := (zeroCells Try.prog x3m).getD []
noncomputable def x2y : List AV := (zeroCells Try.prog x5).getD []
noncomputable def x2h : List AV := (zeroCells Try.prog xby).getD []
noncomputable def x9r : List AV := (zeroCells Try.prog xbz).getD []
noncomputable def x7q : List AV := (zeroCells Try.prog xc3).getD []
noncomputable def x3h : List AV := (zeroCells Try.prog x5m).getD []
noncomputable def x11 : List AV := (zeroCells Try.prog x9s).getD []
noncomputable def x2b : List AV := (zeroCells Try.prog xc0).getD []
noncomputable def xqy : List AV := (zeroCells Try.prog xbr).getD []
noncomputable def x135 : List AV := (zeroCells Try.prog x15u).getD []
noncomputable def xbs : List AV := (zeroCells Try.prog xhm).getD []
noncomputable def xbw : List AV := (zeroCells Try.prog x15v).getD []
end Go.Ix
