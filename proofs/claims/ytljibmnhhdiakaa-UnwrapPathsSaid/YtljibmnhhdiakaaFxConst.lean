import Derived.Test.YtljibmnhhdiakaaFxDefs
import Derived.Test.YtljibmnhhdiakaaProg
namespace Go.Ix
open Go.Proofs
def pol : Pol := fun f t => match f with
  | 17 => if t = 18 then 1 else if t = 32 then 3 else 0
  | 32 => if t = 51 then 1 else if t = 54 then 4 else if t = 61 then 4 else 0
  | 39 => if t = 28 then 3 else 0
  | 42 => if t = 22 then 1 else if t = 32 then 1 else if t = 71 then 3 else 0
  | 52 => if t = 21 then 3 else 0
  | 53 => if t = 21 then 2 else 0
  | 58 => if t = 19 then 2 else 0
  | 64 => if t = 12 then 1 else if t = 17 then 2 else if t = 22 then 2 else 0
  | 73 => if t = 8 then 2 else 0
  | 75 => if t = 24 then 1 else 0
  | 79 => if t = 52 then 2 else 0
  | 80 => if t = 9 then 4 else 0
  | 81 => if t = 7 then 1 else if t = 17 then 4 else if t = 25 then 2 else 0
  | 83 => if t = 140 then 1 else 0
  | 84 => if t = 7 then 2 else 0
  | 95 => if t = 18 then 2 else 0
  | 104 => if t = 16 then 2 else 0
  | 106 => if t = 15 then 4 else 0
  | 110 => if t = 10 then 2 else 0
  | 113 => if t = 12 then 1 else if t = 40 then 2 else 0
  | 114 => if t = 18 then 2 else 0
  | 115 => if t = 19 then 1 else if t = 86 then 2 else 0
  | 116 => if t = 51 then 2 else 0
  | 120 => if t = 49 then 2 else 0
  | 126 => if t = 72 then 2 else 0
  | _ => 0
def NN : Nat := 1048576
abbrev O2 := Option (AV × Mem)
def x8o : FuncId := 4
def x8p : FuncId := 11
def x4s : FuncId := 12
def x24 : FuncId := 15
def x8q : FuncId := 16
def x6j : FuncId := 17
def x8r : FuncId := 18
def x6k : FuncId := 19
def x8s : FuncId := 20
def x8t : FuncId := 21
def x2z : FuncId := 24
def x30 : FuncId := 25
def x6m : FuncId := 26
def x25 : FuncId := 27
def x26 : FuncId := 28
def x1q : FuncId := 29
def x4t : FuncId := 30
def x6q : FuncId := 31
def x6r : FuncId := 32
def x41 : FuncId := 34
def x9 : FuncId := 36
def x8v : FuncId := 39
def x1b : FuncId := 40
def x31 : FuncId := 42
def x8x : FuncId := 46
def x32 : FuncId := 47
def x27 : FuncId := 48
def x6u : FuncId := 49
def x6v : FuncId := 50
def x43 : FuncId := 51
def x8y : FuncId := 54
def x6x : FuncId := 55
def x6y : FuncId := 58
def x4v : FuncId := 60
def x4w : FuncId := 61
def x33 : FuncId := 62
def x34 : FuncId := 63
def x1c : FuncId := 64
def x1r : FuncId := 65
def x70 : FuncId := 66
def x1d : FuncId := 69
def x35 : FuncId := 70
def x36 : FuncId := 71
def x37 : FuncId := 72
def x38 : FuncId := 73
def x28 : FuncId := 74
def x29 : FuncId := 75
def x39 : FuncId := 76
def x4x : FuncId := 77
def xb : FuncId := 78
def x3a : FuncId := 79
def x44 : FuncId := 80
def x79 : FuncId := 81
def x2a : FuncId := 84
def x7b : FuncId := 85
def x3b : FuncId := 86
def xt : FuncId := 87
def x7c : FuncId := 88
def x45 : FuncId := 89
def x46 : FuncId := 90
def x21 : FuncId := 91
def x7f : FuncId := 92
def x4y : FuncId := 93
def x7g : FuncId := 95
def x40 : FuncId := 97
def x7h : FuncId := 98
def x4z : FuncId := 99
def x7i : FuncId := 100
def x7j : FuncId := 101
def x7k : FuncId := 102
def x3c : FuncId := 103
def x23 : FuncId := 104
def x1p : FuncId := 105
def x3d : FuncId := 106
def x22 : FuncId := 107
def x47 : FuncId := 108
def x48 : FuncId := 109
def x3e : FuncId := 110
def x3f : FuncId := 111
def x51 : FuncId := 112
def x3g : FuncId := 113
def x20 : FuncId := 114
def x1a : FuncId := 115
def x6c : FuncId := 116
def x7r : FuncId := 118
def x92 : FuncId := 119
def x2b : FuncId := 120
def x1e : FuncId := 121
def x19 : FuncId := 122
def x3z : FuncId := 123
def x7u : FuncId := 124
def x49 : FuncId := 125
def x2y : FuncId := 126
def x7v : FuncId := 127
def x6b : FuncId := 128
def x1g2 : TypeId := 3
def xdy : TypeId := 4
def x8 : TypeId := 22
def x63 : TypeId := 24
def x5 : TypeId := 27
def xfa : TypeId := 38
def xfb : TypeId := 40
def xde : TypeId := 50
def xaw : TypeId := 64
def xsv : TypeId := 81
def x9e : TypeId := 94
def xjk : TypeId := 97
def xa3 : TypeId := 102
def xvj : TypeId := 104
def x3p : TypeId := 133
def xjl : TypeId := 142
def xvk : TypeId := 150
def xi : TypeId := 155
def x3x : TypeId := 159
def x7 : TypeId := 162
noncomputable def x1ev : List AV := (zeroCells Try.prog x1g2).getD []
noncomputable def xja : List AV := (zeroCells Try.prog xdy).getD []
noncomputable def xk : List AV := (zeroCells Try.prog x63).getD []
noncomputable def xv : List AV := (zeroCells Try.prog x5).getD []
noncomputable def xl : List AV := (zeroCells Try.prog xfa).getD []
noncomputable def x56 : List AV := (zeroCells Try.prog xfb).getD []
noncomputable def x4a : List AV := (zeroCells Try.prog xde).getD []
noncomputable def x4k : List AV := (zeroCells Try.prog xaw).getD []
noncomputable def x6 : List AV := (zeroCells Try.prog x9e).getD []
noncomputable def x1f : List AV := (zeroCells Try.prog xjk).getD []
noncomputable def xef : List AV := (zeroCells Try.prog xa3).getD []
noncomputable def xj8 : List AV := (zeroCells Try.prog xvj).getD []
noncomputable def x5l : List AV := (zeroCells Try.prog xjl).getD []
noncomputable def x5v : List AV := (zeroCells Try.prog xvk).getD []
end Go.Ix
