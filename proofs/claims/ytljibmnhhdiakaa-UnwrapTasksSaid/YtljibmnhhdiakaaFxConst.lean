/- MADE BY PROGRAM (gen.py). What the code does, block by block. -/
import Derived.Test.YtljibmnhhdiakaaFxDefs
import Derived.Test.YtljibmnhhdiakaaProg
namespace Go.Ix
open Go.Proofs
def pol : Pol := fun f t => match f with
  | 17 => if t = 18 then 1 else if t = 32 then 3 else 0
  | 32 => if t = 51 then 1 else if t = 54 then 4 else if t = 61 then 4 else 0
  | 39 => if t = 28 then 3 else 0
  | 42 => if t = 22 then 1 else if t = 32 then 1 else if t = 71 then 3 else 0
  | 52 => if t = 21 then 3 else 0
  | 53 => if t = 21 then 2 else 0
  | 58 => if t = 19 then 2 else 0
  | 64 => if t = 12 then 1 else if t = 17 then 2 else if t = 22 then 2 else 0
  | 73 => if t = 8 then 2 else 0
  | 75 => if t = 24 then 1 else 0
  | 79 => if t = 52 then 2 else 0
  | 80 => if t = 9 then 4 else 0
  | 81 => if t = 7 then 1 else if t = 17 then 4 else if t = 25 then 2 else 0
  | 83 => if t = 140 then 1 else 0
  | 84 => if t = 7 then 2 else 0
  | 95 => if t = 18 then 2 else 0
  | 104 => if t = 16 then 2 else 0
  | 106 => if t = 15 then 4 else 0
  | 110 => if t = 10 then 2 else 0
  | 113 => if t = 12 then 1 else if t = 40 then 2 else 0
  | 114 => if t = 18 then 2 else 0
  | 115 => if t = 19 then 1 else if t = 86 then 2 else 0
  | 116 => if t = 51 then 2 else 0
  | 120 => if t = 49 then 2 else 0
  | 126 => if t = 72 then 2 else 0
  | _ => 0

def NN : Nat := 1048576
def n_law05_UnwrapTasks : FuncId := 4
def n_law05_UnwrapAlong : FuncId := 11
def n_law05_awake : FuncId := 15
def n_law05_Few : FuncId := 16
def n_unwrap_SolveNet : FuncId := 17
def n_ref05_CopyNet : FuncId := 18
def n_ref05_Err : FuncId := 19
def n_ref05_CheckTurns : FuncId := 20
def n_law05_small : FuncId := 25
def n_unwrap_NetOf : FuncId := 26
def n_ref05_CopyTask : FuncId := 27
def n_ref05_CheckTask : FuncId := 28
def n_unwrap_CheckTask : FuncId := 29
def n_ref05_SameNet : FuncId := 30
def n_ref05_NetOf : FuncId := 31
def n_unwrap_NetBetween : FuncId := 32
def n_base_Ints : FuncId := 34
def n_base_Within : FuncId := 36
def n_unwrap_CheckTurns : FuncId := 39
def n_base_CopyInts : FuncId := 40
def n_unwrap_Unwrap : FuncId := 42
def n_unwrap_Along : FuncId := 47
def n_ref05_CopyMap : FuncId := 48
def n_ref05_WrappedErr : FuncId := 49
def n_ref05_Along : FuncId := 50
def n_ref05_Cost : FuncId := 55
def n_unwrap_Undecided : FuncId := 58
def n_law05_Loop : FuncId := 60
def n_law05_Square : FuncId := 61
def n_base_Size : FuncId := 62
def n_unwrap_open : FuncId := 63
def n_unwrap_net_solve : FuncId := 64
def n_unwrap_net_cost : FuncId := 65
def n_ref05_CheckNet : FuncId := 66
def n_unwrap_netOf : FuncId := 69
def n_ref05_sizeErr : FuncId := 70
def n_ref05_wrappedErr : FuncId := 71
def n_unwrap_sizeErr : FuncId := 72
def n_unwrap_phasesErr : FuncId := 73
def n_unwrap_isWrapped : FuncId := 74
def n_slices_Concat_int_int : FuncId := 75
def n_unwrap_isWeight : FuncId := 76
def n_ref05_edge : FuncId := 77
def n_unwrap_within : FuncId := 78
def n_unwrap_net_parts : FuncId := 79
def n_unwrap_solver_most : FuncId := 80
def n_unwrap_net_classes : FuncId := 81
def n_slices_ContainsFunc_int_int : FuncId := 84
def n_unwrap_CheckTurns_1 : FuncId := 85
def n_slices_Clone_int_int : FuncId := 86
def n_unwrap_isVoid : FuncId := 87
def n_unwrap_mapErr : FuncId := 89
def n_unwrap_isNeighbour : FuncId := 90
def n_unwrap_wrapped : FuncId := 91
def n_ref05_neighbours : FuncId := 92
def n_ref05_Step : FuncId := 93
def n_unwrap_net_pairs : FuncId := 95
def n_unwrap_excess : FuncId := 97
def n_base_Mod : FuncId := 99
def n_ref05_Excess : FuncId := 100
def n_unwrap_Undecided_1 : FuncId := 101
def n_unwrap_CheckNet : FuncId := 102
def n_unwrap_newSolver : FuncId := 103
def n_slices_IndexFunc_int_int : FuncId := 104
def n_unwrap_net_solve_1 : FuncId := 105
def n_unwrap_solver_push : FuncId := 106
def n_unwrap_size : FuncId := 107
def n_unwrap_sides : FuncId := 108
def n_ref05_IsWrapped : FuncId := 109
def n_unwrap_phasesErr_1 : FuncId := 110
def n_slices_Grow_int_int : FuncId := 111
def n_ref05_Wrapped : FuncId := 112
def n_unwrap_numbered : FuncId := 113
def n_unwrap_net_parts_1 : FuncId := 114
def n_unwrap_solver_ways : FuncId := 115
def n_unwrap_net_classes_1 : FuncId := 116
def n_unwrap_sides_1 : FuncId := 120
def n_slices_Repeat_int_int : FuncId := 121
def n_unwrap_numbered_1 : FuncId := 122
def n_unwrap_solver_arcs : FuncId := 123
def n_math_bits_Mul : FuncId := 125
def n_unwrap_solver_arcs_1 : FuncId := 126
def n_math_bits_Mul32 : FuncId := 127
def n_math_bits_Mul64 : FuncId := 128
def y_int : TypeId := 3
def y_bool : TypeId := 4
def y_sl_api_UnwrapEdge : TypeId := 22
def y_api_UnwrapNet : TypeId := 24
def y_sl_int : TypeId := 27
def y_api_PhaseMap : TypeId := 38
def y_api_UnwrapTask : TypeId := 40
def y_api_Range : TypeId := 50
def y_2_int : TypeId := 64
def y_sl_2_int : TypeId := 81
def y_api_UnwrapEdge : TypeId := 94
def y_unwrap_net : TypeId := 97
def y_sl_sl_int : TypeId := 102
def y_unwrap_solver : TypeId := 104
def y_map_int_int : TypeId := 133
def y_unwrap_tour : TypeId := 142
def y_unwrap_arc : TypeId := 150
def y_uint : TypeId := 155
def y_uint32 : TypeId := 159
def y_uint64 : TypeId := 162
noncomputable def z_int : List AV := (zeroCells Try.prog y_int).getD []
noncomputable def z_bool : List AV := (zeroCells Try.prog y_bool).getD []
noncomputable def z_api_UnwrapNet : List AV := (zeroCells Try.prog y_api_UnwrapNet).getD []
noncomputable def z_sl_int : List AV := (zeroCells Try.prog y_sl_int).getD []
noncomputable def z_api_PhaseMap : List AV := (zeroCells Try.prog y_api_PhaseMap).getD []
noncomputable def z_api_UnwrapTask : List AV := (zeroCells Try.prog y_api_UnwrapTask).getD []
noncomputable def z_api_Range : List AV := (zeroCells Try.prog y_api_Range).getD []
noncomputable def z_2_int : List AV := (zeroCells Try.prog y_2_int).getD []
noncomputable def z_api_UnwrapEdge : List AV := (zeroCells Try.prog y_api_UnwrapEdge).getD []
noncomputable def z_unwrap_net : List AV := (zeroCells Try.prog y_unwrap_net).getD []
noncomputable def z_sl_sl_int : List AV := (zeroCells Try.prog y_sl_sl_int).getD []
noncomputable def z_unwrap_solver : List AV := (zeroCells Try.prog y_unwrap_solver).getD []
noncomputable def z_unwrap_tour : List AV := (zeroCells Try.prog y_unwrap_tour).getD []
noncomputable def z_unwrap_arc : List AV := (zeroCells Try.prog y_unwrap_arc).getD []
end Go.Ix
