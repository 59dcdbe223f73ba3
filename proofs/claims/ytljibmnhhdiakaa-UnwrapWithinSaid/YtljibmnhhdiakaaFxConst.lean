import Derived.Test.YtljibmnhhdiakaaFxDefs
import Derived.Test.YtljibmnhhdiakaaProg
namespace Go.Ix
open Go.Proofs
def pol : Pol := fun f t => match f with
  | 17 => if t = 18 then 1 else if t = 32 then 3 else 0
  | 32 => if t = 51 then 1 else if t = 54 then 4 else if t = 61 then 4 else 0
  | 39 => if t = 28 then 3 else 0
  | 42 => if t = 22 then 1 else if t = 32 then 1 else if t = 71 then 3 else 0
  | 52 => if t = 21 then 3 else 0
  | 53 => if t = 21 then 2 else 0
  | 58 => if t = 19 then 2 else 0
  | 64 => if t = 12 then 1 else if t = 17 then 2 else if t = 22 then 2 else 0
  | 73 => if t = 8 then 2 else 0
  | 75 => if t = 24 then 1 else 0
  | 79 => if t = 52 then 2 else 0
  | 80 => if t = 9 then 4 else 0
  | 81 => if t = 7 then 1 else if t = 17 then 4 else if t = 25 then 2 else 0
  | 83 => if t = 140 then 1 else 0
  | 84 => if t = 7 then 2 else 0
  | 95 => if t = 18 then 2 else 0
  | 104 => if t = 16 then 2 else 0
  | 106 => if t = 15 then 4 else 0
  | 110 => if t = 10 then 2 else 0
  | 113 => if t = 12 then 1 else if t = 40 then 2 else 0
  | 114 => if t = 18 then 2 else 0
  | 115 => if t = 19 then 1 else if t = 86 then 2 else 0
  | 116 => if t = 51 then 2 else 0
  | 120 => if t = 49 then 2 else 0
  | 126 => if t = 72 then 2 else 0
  | _ => 0

def NN : Nat := 1048576
def xe : FuncId := 6
def x5t : FuncId := 7
def x10 : FuncId := 9
def x5u : FuncId := 10
def x2g : FuncId := 15
def xy : FuncId := 16
def x2s : FuncId := 17
def x1f : FuncId := 18
def x2h : FuncId := 19
def x1g : FuncId := 20
def xl : FuncId := 21
def xp : FuncId := 29
def x28 : FuncId := 32
def x1h : FuncId := 34
def x15 : FuncId := 36
def x2i : FuncId := 39
def x29 : FuncId := 40
def x3z : FuncId := 41
def xj : FuncId := 42
def x3p : FuncId := 46
def x1i : FuncId := 55
def x5x : FuncId := 58
def x53 : FuncId := 60
def x22 : FuncId := 61
def x40 : FuncId := 62
def x2t : FuncId := 63
def x9 : FuncId := 64
def xz : FuncId := 65
def x11 : FuncId := 66
def xu : FuncId := 69
def x5z : FuncId := 72
def x60 : FuncId := 73
def x61 : FuncId := 74
def xd : FuncId := 75
def x41 : FuncId := 76
def x1e : FuncId := 78
def xr : FuncId := 79
def xh : FuncId := 80
def x1a : FuncId := 81
def x2j : FuncId := 84
def x42 : FuncId := 85
def x63 : FuncId := 86
def x3o : FuncId := 87
def x16 : FuncId := 88
def x21 : FuncId := 91
def xv : FuncId := 95
def x4z : FuncId := 97
def x54 : FuncId := 100
def x64 : FuncId := 101
def x1b : FuncId := 102
def xi : FuncId := 103
def x19 : FuncId := 104
def x2r : FuncId := 105
def x7 : FuncId := 106
def x50 : FuncId := 107
def x65 : FuncId := 108
def x66 : FuncId := 110
def x1y : FuncId := 111
def xa : FuncId := 113
def x20 : FuncId := 114
def x8 : FuncId := 115
def x1n : FuncId := 116
def x2u : FuncId := 118
def xg : FuncId := 120
def xm : FuncId := 121
def x2f : FuncId := 122
def x4y : FuncId := 123
def x43 : FuncId := 125
def xk : FuncId := 126
def x68 : FuncId := 127
def x5s : FuncId := 128
def y_int : TypeId := 3
def xvi : TypeId := 4
def x1c : TypeId := 22
def x6a : TypeId := 24
def x6 : TypeId := 27
def xda : TypeId := 38
def xdb : TypeId := 40
def x9k : TypeId := 50
def xkz : TypeId := 64
def xti : TypeId := 81
def xl5 : TypeId := 94
def xdc : TypeId := 97
def x91 : TypeId := 102
def xvj : TypeId := 104
def x5a : TypeId := 133
def xdd : TypeId := 142
def xvk : TypeId := 150
def x1v : TypeId := 155
def x5f : TypeId := 159
def xw : TypeId := 162
noncomputable def z_int : List AV := (zeroCells Try.prog y_int).getD []
noncomputable def xkv : List AV := (zeroCells Try.prog xvi).getD []
noncomputable def x56 : List AV := (zeroCells Try.prog x6a).getD []
noncomputable def x2k : List AV := (zeroCells Try.prog x6).getD []
noncomputable def x55 : List AV := (zeroCells Try.prog xda).getD []
noncomputable def xcb : List AV := (zeroCells Try.prog xdb).getD []
noncomputable def x3q : List AV := (zeroCells Try.prog x9k).getD []
noncomputable def x8z : List AV := (zeroCells Try.prog xkz).getD []
noncomputable def x1o : List AV := (zeroCells Try.prog xl5).getD []
noncomputable def x2v : List AV := (zeroCells Try.prog xdc).getD []
noncomputable def xco : List AV := (zeroCells Try.prog x91).getD []
noncomputable def xks : List AV := (zeroCells Try.prog xvj).getD []
noncomputable def x7l : List AV := (zeroCells Try.prog xdd).getD []
noncomputable def x7t : List AV := (zeroCells Try.prog xvk).getD []
end Go.Ix
