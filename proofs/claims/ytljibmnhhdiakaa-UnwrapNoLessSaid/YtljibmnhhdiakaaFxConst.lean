import Derived.Test.YtljibmnhhdiakaaFxDefs
import Derived.Test.YtljibmnhhdiakaaProg
namespace Go.Ix
open Go.Proofs
def pol : Pol := fun f t => match f with
  | 17 => if t = 18 then 1 else if t = 32 then 3 else 0
  | 32 => if t = 51 then 1 else if t = 54 then 4 else if t = 61 then 4 else 0
  | 39 => if t = 28 then 3 else 0
  | 42 => if t = 22 then 1 else if t = 32 then 1 else if t = 71 then 3 else 0
  | 52 => if t = 21 then 3 else 0
  | 53 => if t = 21 then 2 else 0
  | 58 => if t = 19 then 2 else 0
  | 64 => if t = 12 then 1 else if t = 17 then 2 else if t = 22 then 2 else 0
  | 73 => if t = 8 then 2 else 0
  | 75 => if t = 24 then 1 else 0
  | 79 => if t = 52 then 2 else 0
  | 80 => if t = 9 then 4 else 0
  | 81 => if t = 7 then 1 else if t = 17 then 4 else if t = 25 then 2 else 0
  | 83 => if t = 140 then 1 else 0
  | 84 => if t = 7 then 2 else 0
  | 95 => if t = 18 then 2 else 0
  | 104 => if t = 16 then 2 else 0
  | 106 => if t = 15 then 4 else 0
  | 110 => if t = 10 then 2 else 0
  | 113 => if t = 12 then 1 else if t = 40 then 2 else 0
  | 114 => if t = 18 then 2 else 0
  | 115 => if t = 19 then 1 else if t = 86 then 2 else 0
  | 116 => if t = 51 then 2 else 0
  | 120 => if t = 49 then 2 else 0
  | 126 => if t = 72 then 2 else 0
  | _ => 0

def NN : Nat := 1048576
def xd : FuncId := 6
def xz : FuncId := 9
def x5o : FuncId := 10
def x2n : FuncId := 15
def xx : FuncId := 16
def x3m : FuncId := 17
def x1w : FuncId := 18
def x2d : FuncId := 19
def x1d : FuncId := 20
def xj : FuncId := 21
def xm : FuncId := 29
def x5q : FuncId := 32
def x1e : FuncId := 34
def x1n : FuncId := 36
def x2o : FuncId := 39
def x2e : FuncId := 40
def x4x : FuncId := 41
def xh : FuncId := 42
def x3n : FuncId := 46
def x1f : FuncId := 55
def x5s : FuncId := 58
def x4y : FuncId := 60
def x21 : FuncId := 61
def x3v : FuncId := 62
def x2p : FuncId := 63
def x8 : FuncId := 64
def xy : FuncId := 65
def x10 : FuncId := 66
def xt : FuncId := 69
def x5u : FuncId := 72
def x5v : FuncId := 73
def x5w : FuncId := 74
def xc : FuncId := 75
def x3w : FuncId := 76
def x1c : FuncId := 78
def xp : FuncId := 79
def xq : FuncId := 80
def x18 : FuncId := 81
def x2f : FuncId := 84
def x3x : FuncId := 85
def x5y : FuncId := 86
def x3l : FuncId := 87
def x14 : FuncId := 88
def x20 : FuncId := 91
def xu : FuncId := 95
def x4u : FuncId := 97
def x4z : FuncId := 100
def x5z : FuncId := 101
def x19 : FuncId := 102
def xg : FuncId := 103
def x17 : FuncId := 104
def x2m : FuncId := 105
def x6 : FuncId := 106
def x4v : FuncId := 107
def x60 : FuncId := 108
def x61 : FuncId := 110
def x1x : FuncId := 111
def x9 : FuncId := 113
def x1z : FuncId := 114
def x7 : FuncId := 115
def x1k : FuncId := 116
def x2q : FuncId := 118
def xf : FuncId := 120
def xk : FuncId := 121
def x2c : FuncId := 122
def x4t : FuncId := 123
def x3y : FuncId := 125
def xi : FuncId := 126
def x63 : FuncId := 127
def x5n : FuncId := 128
def y_int : TypeId := 3
def xv8 : TypeId := 4
def x1a : TypeId := 22
def x66 : TypeId := 24
def x5 : TypeId := 27
def xd2 : TypeId := 38
def xd3 : TypeId := 40
def x9d : TypeId := 50
def xku : TypeId := 64
def xt9 : TypeId := 81
def xl0 : TypeId := 94
def xd4 : TypeId := 97
def x8w : TypeId := 102
def xv9 : TypeId := 104
def x55 : TypeId := 133
def xd5 : TypeId := 142
def xva : TypeId := 150
def x1t : TypeId := 155
def x5a : TypeId := 159
def xv : TypeId := 162
noncomputable def z_int : List AV := (zeroCells Try.prog y_int).getD []
noncomputable def xkq : List AV := (zeroCells Try.prog xv8).getD []
noncomputable def x51 : List AV := (zeroCells Try.prog x66).getD []
noncomputable def x2g : List AV := (zeroCells Try.prog x5).getD []
noncomputable def x50 : List AV := (zeroCells Try.prog xd2).getD []
noncomputable def xc1 : List AV := (zeroCells Try.prog xd3).getD []
noncomputable def x64 : List AV := (zeroCells Try.prog x9d).getD []
noncomputable def x8u : List AV := (zeroCells Try.prog xku).getD []
noncomputable def x1l : List AV := (zeroCells Try.prog xl0).getD []
noncomputable def x2r : List AV := (zeroCells Try.prog xd4).getD []
noncomputable def xce : List AV := (zeroCells Try.prog x8w).getD []
noncomputable def xkn : List AV := (zeroCells Try.prog xv9).getD []
noncomputable def x7g : List AV := (zeroCells Try.prog xd5).getD []
noncomputable def x7o : List AV := (zeroCells Try.prog xva).getD []
end Go.Ix
