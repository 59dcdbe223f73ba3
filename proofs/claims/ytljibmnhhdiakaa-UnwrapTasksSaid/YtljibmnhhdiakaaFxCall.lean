/- MADE BY PROGRAM (gen.py). What the code does, block by block. -/
import Derived.Test.YtljibmnhhdiakaaFxText0
import Derived.Test.YtljibmnhhdiakaaFxRules
namespace Go.Ix
open Go.Proofs
noncomputable def table : List (FuncId × FnT) := [
  (n_unwrap_solver_arcs_1, F_unwrap_solver_arcs_1),
  (n_unwrap_within, F_unwrap_within),
  (n_unwrap_numbered_1, F_unwrap_numbered_1),
  (n_unwrap_solver_ways, F_unwrap_solver_ways),
  (n_unwrap_solver_arcs, F_unwrap_solver_arcs),
  (n_unwrap_net_parts_1, F_unwrap_net_parts_1),
  (n_math_bits_Mul64, F_math_bits_Mul64),
  (n_unwrap_net_classes_1, F_unwrap_net_classes_1),
  (n_unwrap_wrapped, F_unwrap_wrapped),
  (n_unwrap_isVoid, F_unwrap_isVoid),
  (n_unwrap_excess, F_unwrap_excess),
  (n_unwrap_size, F_unwrap_size),
  (n_slices_IndexFunc_int_int, F_slices_IndexFunc_int_int),
  (n_unwrap_net_solve_1, F_unwrap_net_solve_1),
  (n_law05_UnwrapTasks, F_law05_UnwrapTasks),
  (n_law05_UnwrapAlong, F_law05_UnwrapAlong),
  (n_law05_awake, F_law05_awake),
  (n_law05_Few, F_law05_Few),
  (n_unwrap_SolveNet, F_unwrap_SolveNet),
  (n_ref05_CopyNet, F_ref05_CopyNet),
  (n_ref05_Err, F_ref05_Err),
  (n_ref05_CheckTurns, F_ref05_CheckTurns),
  (n_law05_small, F_law05_small),
  (n_unwrap_NetOf, F_unwrap_NetOf),
  (n_ref05_CopyTask, F_ref05_CopyTask),
  (n_ref05_CheckTask, F_ref05_CheckTask),
  (n_unwrap_CheckTask, F_unwrap_CheckTask),
  (n_ref05_SameNet, F_ref05_SameNet),
  (n_ref05_NetOf, F_ref05_NetOf),
  (n_unwrap_NetBetween, F_unwrap_NetBetween),
  (n_base_Ints, F_base_Ints),
  (n_base_Within, F_base_Within),
  (n_unwrap_CheckTurns, F_unwrap_CheckTurns),
  (n_base_CopyInts, F_base_CopyInts),
  (n_unwrap_Unwrap, F_unwrap_Unwrap),
  (n_unwrap_Along, F_unwrap_Along),
  (n_ref05_CopyMap, F_ref05_CopyMap),
  (n_ref05_WrappedErr, F_ref05_WrappedErr),
  (n_ref05_Along, F_ref05_Along),
  (n_ref05_Cost, F_ref05_Cost),
  (n_unwrap_Undecided, F_unwrap_Undecided),
  (n_law05_Loop, F_law05_Loop),
  (n_law05_Square, F_law05_Square),
  (n_base_Size, F_base_Size),
  (n_unwrap_open, F_unwrap_open),
  (n_unwrap_net_solve, F_unwrap_net_solve),
  (n_unwrap_net_cost, F_unwrap_net_cost),
  (n_ref05_CheckNet, F_ref05_CheckNet),
  (n_unwrap_netOf, F_unwrap_netOf),
  (n_ref05_sizeErr, F_ref05_sizeErr),
  (n_ref05_wrappedErr, F_ref05_wrappedErr),
  (n_unwrap_sizeErr, F_unwrap_sizeErr),
  (n_unwrap_phasesErr, F_unwrap_phasesErr),
  (n_unwrap_isWrapped, F_unwrap_isWrapped),
  (n_slices_Concat_int_int, F_slices_Concat_int_int),
  (n_unwrap_isWeight, F_unwrap_isWeight),
  (n_ref05_edge, F_ref05_edge),
  (n_unwrap_net_parts, F_unwrap_net_parts),
  (n_unwrap_solver_most, F_unwrap_solver_most),
  (n_unwrap_net_classes, F_unwrap_net_classes),
  (n_slices_ContainsFunc_int_int, F_slices_ContainsFunc_int_int),
  (n_unwrap_CheckTurns_1, F_unwrap_CheckTurns_1),
  (n_slices_Clone_int_int, F_slices_Clone_int_int),
  (n_unwrap_mapErr, F_unwrap_mapErr),
  (n_unwrap_isNeighbour, F_unwrap_isNeighbour),
  (n_ref05_neighbours, F_ref05_neighbours),
  (n_ref05_Step, F_ref05_Step),
  (n_unwrap_net_pairs, F_unwrap_net_pairs),
  (n_base_Mod, F_base_Mod),
  (n_ref05_Excess, F_ref05_Excess),
  (n_unwrap_Undecided_1, F_unwrap_Undecided_1),
  (n_unwrap_CheckNet, F_unwrap_CheckNet),
  (n_unwrap_newSolver, F_unwrap_newSolver),
  (n_unwrap_solver_push, F_unwrap_solver_push),
  (n_unwrap_sides, F_unwrap_sides),
  (n_ref05_IsWrapped, F_ref05_IsWrapped),
  (n_unwrap_phasesErr_1, F_unwrap_phasesErr_1),
  (n_slices_Grow_int_int, F_slices_Grow_int_int),
  (n_ref05_Wrapped, F_ref05_Wrapped),
  (n_unwrap_numbered, F_unwrap_numbered),
  (n_unwrap_sides_1, F_unwrap_sides_1),
  (n_slices_Repeat_int_int, F_slices_Repeat_int_int),
  (n_math_bits_Mul, F_math_bits_Mul),
  (n_math_bits_Mul32, F_math_bits_Mul32)]
noncomputable def callE : Nat → FCall
  | 0 => fun _ _ _ _ => none
  | d + 1 => fun hs f args m => look f table (callE d) hs args m
theorem callE_law05_UnwrapTasks (d : Nat) (hs : FHs) (args : List AV) (m : Mem) : callE (d + 1) hs n_law05_UnwrapTasks args m = F_law05_UnwrapTasks (callE d) hs args m := by kernel_rfl
theorem callE_law05_UnwrapAlong (d : Nat) (hs : FHs) (args : List AV) (m : Mem) : callE (d + 1) hs n_law05_UnwrapAlong args m = F_law05_UnwrapAlong (callE d) hs args m := by kernel_rfl
theorem callE_law05_awake (d : Nat) (hs : FHs) (args : List AV) (m : Mem) : callE (d + 1) hs n_law05_awake args m = F_law05_awake (callE d) hs args m := by kernel_rfl
theorem callE_law05_Few (d : Nat) (hs : FHs) (args : List AV) (m : Mem) : callE (d + 1) hs n_law05_Few args m = F_law05_Few (callE d) hs args m := by kernel_rfl
theorem callE_unwrap_SolveNet (d : Nat) (hs : FHs) (args : List AV) (m : Mem) : callE (d + 1) hs n_unwrap_SolveNet args m = F_unwrap_SolveNet (callE d) hs args m := by kernel_rfl
theorem callE_ref05_CopyNet (d : Nat) (hs : FHs) (args : List AV) (m : Mem) : callE (d + 1) hs n_ref05_CopyNet args m = F_ref05_CopyNet (callE d) hs args m := by kernel_rfl
theorem callE_ref05_Err (d : Nat) (hs : FHs) (args : List AV) (m : Mem) : callE (d + 1) hs n_ref05_Err args m = F_ref05_Err (callE d) hs args m := by kernel_rfl
theorem callE_ref05_CheckTurns (d : Nat) (hs : FHs) (args : List AV) (m : Mem) : callE (d + 1) hs n_ref05_CheckTurns args m = F_ref05_CheckTurns (callE d) hs args m := by kernel_rfl
theorem callE_law05_small (d : Nat) (hs : FHs) (args : List AV) (m : Mem) : callE (d + 1) hs n_law05_small args m = F_law05_small (callE d) hs args m := by kernel_rfl
theorem callE_unwrap_NetOf (d : Nat) (hs : FHs) (args : List AV) (m : Mem) : callE (d + 1) hs n_unwrap_NetOf args m = F_unwrap_NetOf (callE d) hs args m := by kernel_rfl
theorem callE_ref05_CopyTask (d : Nat) (hs : FHs) (args : List AV) (m : Mem) : callE (d + 1) hs n_ref05_CopyTask args m = F_ref05_CopyTask (callE d) hs args m := by kernel_rfl
theorem callE_ref05_CheckTask (d : Nat) (hs : FHs) (args : List AV) (m : Mem) : callE (d + 1) hs n_ref05_CheckTask args m = F_ref05_CheckTask (callE d) hs args m := by kernel_rfl
theorem callE_unwrap_CheckTask (d : Nat) (hs : FHs) (args : List AV) (m : Mem) : callE (d + 1) hs n_unwrap_CheckTask args m = F_unwrap_CheckTask (callE d) hs args m := by kernel_rfl
theorem callE_ref05_SameNet (d : Nat) (hs : FHs) (args : List AV) (m : Mem) : callE (d + 1) hs n_ref05_SameNet args m = F_ref05_SameNet (callE d) hs args m := by kernel_rfl
theorem callE_ref05_NetOf (d : Nat) (hs : FHs) (args : List AV) (m : Mem) : callE (d + 1) hs n_ref05_NetOf args m = F_ref05_NetOf (callE d) hs args m := by kernel_rfl
theorem callE_unwrap_NetBetween (d : Nat) (hs : FHs) (args : List AV) (m : Mem) : callE (d + 1) hs n_unwrap_NetBetween args m = F_unwrap_NetBetween (callE d) hs args m := by kernel_rfl
theorem callE_base_Ints (d : Nat) (hs : FHs) (args : List AV) (m : Mem) : callE (d + 1) hs n_base_Ints args m = F_base_Ints (callE d) hs args m := by kernel_rfl
theorem callE_base_Within (d : Nat) (hs : FHs) (args : List AV) (m : Mem) : callE (d + 1) hs n_base_Within args m = F_base_Within (callE d) hs args m := by kernel_rfl
theorem callE_unwrap_CheckTurns (d : Nat) (hs : FHs) (args : List AV) (m : Mem) : callE (d + 1) hs n_unwrap_CheckTurns args m = F_unwrap_CheckTurns (callE d) hs args m := by kernel_rfl
theorem callE_base_CopyInts (d : Nat) (hs : FHs) (args : List AV) (m : Mem) : callE (d + 1) hs n_base_CopyInts args m = F_base_CopyInts (callE d) hs args m := by kernel_rfl
theorem callE_unwrap_Unwrap (d : Nat) (hs : FHs) (args : List AV) (m : Mem) : callE (d + 1) hs n_unwrap_Unwrap args m = F_unwrap_Unwrap (callE d) hs args m := by kernel_rfl
theorem callE_unwrap_Along (d : Nat) (hs : FHs) (args : List AV) (m : Mem) : callE (d + 1) hs n_unwrap_Along args m = F_unwrap_Along (callE d) hs args m := by kernel_rfl
theorem callE_ref05_CopyMap (d : Nat) (hs : FHs) (args : List AV) (m : Mem) : callE (d + 1) hs n_ref05_CopyMap args m = F_ref05_CopyMap (callE d) hs args m := by kernel_rfl
theorem callE_ref05_WrappedErr (d : Nat) (hs : FHs) (args : List AV) (m : Mem) : callE (d + 1) hs n_ref05_WrappedErr args m = F_ref05_WrappedErr (callE d) hs args m := by kernel_rfl
theorem callE_ref05_Along (d : Nat) (hs : FHs) (args : List AV) (m : Mem) : callE (d + 1) hs n_ref05_Along args m = F_ref05_Along (callE d) hs args m := by kernel_rfl
theorem callE_ref05_Cost (d : Nat) (hs : FHs) (args : List AV) (m : Mem) : callE (d + 1) hs n_ref05_Cost args m = F_ref05_Cost (callE d) hs args m := by kernel_rfl
theorem callE_unwrap_Undecided (d : Nat) (hs : FHs) (args : List AV) (m : Mem) : callE (d + 1) hs n_unwrap_Undecided args m = F_unwrap_Undecided (callE d) hs args m := by kernel_rfl
theorem callE_law05_Loop (d : Nat) (hs : FHs) (args : List AV) (m : Mem) : callE (d + 1) hs n_law05_Loop args m = F_law05_Loop (callE d) hs args m := by kernel_rfl
theorem callE_law05_Square (d : Nat) (hs : FHs) (args : List AV) (m : Mem) : callE (d + 1) hs n_law05_Square args m = F_law05_Square (callE d) hs args m := by kernel_rfl
theorem callE_base_Size (d : Nat) (hs : FHs) (args : List AV) (m : Mem) : callE (d + 1) hs n_base_Size args m = F_base_Size (callE d) hs args m := by kernel_rfl
theorem callE_unwrap_open (d : Nat) (hs : FHs) (args : List AV) (m : Mem) : callE (d + 1) hs n_unwrap_open args m = F_unwrap_open (callE d) hs args m := by kernel_rfl
theorem callE_unwrap_net_solve (d : Nat) (hs : FHs) (args : List AV) (m : Mem) : callE (d + 1) hs n_unwrap_net_solve args m = F_unwrap_net_solve (callE d) hs args m := by kernel_rfl
theorem callE_unwrap_net_cost (d : Nat) (hs : FHs) (args : List AV) (m : Mem) : callE (d + 1) hs n_unwrap_net_cost args m = F_unwrap_net_cost (callE d) hs args m := by kernel_rfl
theorem callE_ref05_CheckNet (d : Nat) (hs : FHs) (args : List AV) (m : Mem) : callE (d + 1) hs n_ref05_CheckNet args m = F_ref05_CheckNet (callE d) hs args m := by kernel_rfl
theorem callE_unwrap_netOf (d : Nat) (hs : FHs) (args : List AV) (m : Mem) : callE (d + 1) hs n_unwrap_netOf args m = F_unwrap_netOf (callE d) hs args m := by kernel_rfl
theorem callE_ref05_sizeErr (d : Nat) (hs : FHs) (args : List AV) (m : Mem) : callE (d + 1) hs n_ref05_sizeErr args m = F_ref05_sizeErr (callE d) hs args m := by kernel_rfl
theorem callE_ref05_wrappedErr (d : Nat) (hs : FHs) (args : List AV) (m : Mem) : callE (d + 1) hs n_ref05_wrappedErr args m = F_ref05_wrappedErr (callE d) hs args m := by kernel_rfl
theorem callE_unwrap_sizeErr (d : Nat) (hs : FHs) (args : List AV) (m : Mem) : callE (d + 1) hs n_unwrap_sizeErr args m = F_unwrap_sizeErr (callE d) hs args m := by kernel_rfl
theorem callE_unwrap_phasesErr (d : Nat) (hs : FHs) (args : List AV) (m : Mem) : callE (d + 1) hs n_unwrap_phasesErr args m = F_unwrap_phasesErr (callE d) hs args m := by kernel_rfl
theorem callE_unwrap_isWrapped (d : Nat) (hs : FHs) (args : List AV) (m : Mem) : callE (d + 1) hs n_unwrap_isWrapped args m = F_unwrap_isWrapped (callE d) hs args m := by kernel_rfl
theorem callE_slices_Concat_int_int (d : Nat) (hs : FHs) (args : List AV) (m : Mem) : callE (d + 1) hs n_slices_Concat_int_int args m = F_slices_Concat_int_int (callE d) hs args m := by kernel_rfl
theorem callE_unwrap_isWeight (d : Nat) (hs : FHs) (args : List AV) (m : Mem) : callE (d + 1) hs n_unwrap_isWeight args m = F_unwrap_isWeight (callE d) hs args m := by kernel_rfl
theorem callE_ref05_edge (d : Nat) (hs : FHs) (args : List AV) (m : Mem) : callE (d + 1) hs n_ref05_edge args m = F_ref05_edge (callE d) hs args m := by kernel_rfl
theorem callE_unwrap_within (d : Nat) (hs : FHs) (args : List AV) (m : Mem) : callE (d + 1) hs n_unwrap_within args m = F_unwrap_within (callE d) hs args m := by kernel_rfl
theorem callE_unwrap_net_parts (d : Nat) (hs : FHs) (args : List AV) (m : Mem) : callE (d + 1) hs n_unwrap_net_parts args m = F_unwrap_net_parts (callE d) hs args m := by kernel_rfl
theorem callE_unwrap_solver_most (d : Nat) (hs : FHs) (args : List AV) (m : Mem) : callE (d + 1) hs n_unwrap_solver_most args m = F_unwrap_solver_most (callE d) hs args m := by kernel_rfl
theorem callE_unwrap_net_classes (d : Nat) (hs : FHs) (args : List AV) (m : Mem) : callE (d + 1) hs n_unwrap_net_classes args m = F_unwrap_net_classes (callE d) hs args m := by kernel_rfl
theorem callE_slices_ContainsFunc_int_int (d : Nat) (hs : FHs) (args : List AV) (m : Mem) : callE (d + 1) hs n_slices_ContainsFunc_int_int args m = F_slices_ContainsFunc_int_int (callE d) hs args m := by kernel_rfl
theorem callE_unwrap_CheckTurns_1 (d : Nat) (hs : FHs) (args : List AV) (m : Mem) : callE (d + 1) hs n_unwrap_CheckTurns_1 args m = F_unwrap_CheckTurns_1 (callE d) hs args m := by kernel_rfl
theorem callE_slices_Clone_int_int (d : Nat) (hs : FHs) (args : List AV) (m : Mem) : callE (d + 1) hs n_slices_Clone_int_int args m = F_slices_Clone_int_int (callE d) hs args m := by kernel_rfl
theorem callE_unwrap_isVoid (d : Nat) (hs : FHs) (args : List AV) (m : Mem) : callE (d + 1) hs n_unwrap_isVoid args m = F_unwrap_isVoid (callE d) hs args m := by kernel_rfl
theorem callE_unwrap_mapErr (d : Nat) (hs : FHs) (args : List AV) (m : Mem) : callE (d + 1) hs n_unwrap_mapErr args m = F_unwrap_mapErr (callE d) hs args m := by kernel_rfl
theorem callE_unwrap_isNeighbour (d : Nat) (hs : FHs) (args : List AV) (m : Mem) : callE (d + 1) hs n_unwrap_isNeighbour args m = F_unwrap_isNeighbour (callE d) hs args m := by kernel_rfl
theorem callE_unwrap_wrapped (d : Nat) (hs : FHs) (args : List AV) (m : Mem) : callE (d + 1) hs n_unwrap_wrapped args m = F_unwrap_wrapped (callE d) hs args m := by kernel_rfl
theorem callE_ref05_neighbours (d : Nat) (hs : FHs) (args : List AV) (m : Mem) : callE (d + 1) hs n_ref05_neighbours args m = F_ref05_neighbours (callE d) hs args m := by kernel_rfl
theorem callE_ref05_Step (d : Nat) (hs : FHs) (args : List AV) (m : Mem) : callE (d + 1) hs n_ref05_Step args m = F_ref05_Step (callE d) hs args m := by kernel_rfl
theorem callE_unwrap_net_pairs (d : Nat) (hs : FHs) (args : List AV) (m : Mem) : callE (d + 1) hs n_unwrap_net_pairs args m = F_unwrap_net_pairs (callE d) hs args m := by kernel_rfl
theorem callE_unwrap_excess (d : Nat) (hs : FHs) (args : List AV) (m : Mem) : callE (d + 1) hs n_unwrap_excess args m = F_unwrap_excess (callE d) hs args m := by kernel_rfl
theorem callE_base_Mod (d : Nat) (hs : FHs) (args : List AV) (m : Mem) : callE (d + 1) hs n_base_Mod args m = F_base_Mod (callE d) hs args m := by kernel_rfl
theorem callE_ref05_Excess (d : Nat) (hs : FHs) (args : List AV) (m : Mem) : callE (d + 1) hs n_ref05_Excess args m = F_ref05_Excess (callE d) hs args m := by kernel_rfl
theorem callE_unwrap_Undecided_1 (d : Nat) (hs : FHs) (args : List AV) (m : Mem) : callE (d + 1) hs n_unwrap_Undecided_1 args m = F_unwrap_Undecided_1 (callE d) hs args m := by kernel_rfl
theorem callE_unwrap_CheckNet (d : Nat) (hs : FHs) (args : List AV) (m : Mem) : callE (d + 1) hs n_unwrap_CheckNet args m = F_unwrap_CheckNet (callE d) hs args m := by kernel_rfl
theorem callE_unwrap_newSolver (d : Nat) (hs : FHs) (args : List AV) (m : Mem) : callE (d + 1) hs n_unwrap_newSolver args m = F_unwrap_newSolver (callE d) hs args m := by kernel_rfl
theorem callE_slices_IndexFunc_int_int (d : Nat) (hs : FHs) (args : List AV) (m : Mem) : callE (d + 1) hs n_slices_IndexFunc_int_int args m = F_slices_IndexFunc_int_int (callE d) hs args m := by kernel_rfl
theorem callE_unwrap_net_solve_1 (d : Nat) (hs : FHs) (args : List AV) (m : Mem) : callE (d + 1) hs n_unwrap_net_solve_1 args m = F_unwrap_net_solve_1 (callE d) hs args m := by kernel_rfl
theorem callE_unwrap_solver_push (d : Nat) (hs : FHs) (args : List AV) (m : Mem) : callE (d + 1) hs n_unwrap_solver_push args m = F_unwrap_solver_push (callE d) hs args m := by kernel_rfl
theorem callE_unwrap_size (d : Nat) (hs : FHs) (args : List AV) (m : Mem) : callE (d + 1) hs n_unwrap_size args m = F_unwrap_size (callE d) hs args m := by kernel_rfl
theorem callE_unwrap_sides (d : Nat) (hs : FHs) (args : List AV) (m : Mem) : callE (d + 1) hs n_unwrap_sides args m = F_unwrap_sides (callE d) hs args m := by kernel_rfl
theorem callE_ref05_IsWrapped (d : Nat) (hs : FHs) (args : List AV) (m : Mem) : callE (d + 1) hs n_ref05_IsWrapped args m = F_ref05_IsWrapped (callE d) hs args m := by kernel_rfl
theorem callE_unwrap_phasesErr_1 (d : Nat) (hs : FHs) (args : List AV) (m : Mem) : callE (d + 1) hs n_unwrap_phasesErr_1 args m = F_unwrap_phasesErr_1 (callE d) hs args m := by kernel_rfl
theorem callE_slices_Grow_int_int (d : Nat) (hs : FHs) (args : List AV) (m : Mem) : callE (d + 1) hs n_slices_Grow_int_int args m = F_slices_Grow_int_int (callE d) hs args m := by kernel_rfl
theorem callE_ref05_Wrapped (d : Nat) (hs : FHs) (args : List AV) (m : Mem) : callE (d + 1) hs n_ref05_Wrapped args m = F_ref05_Wrapped (callE d) hs args m := by kernel_rfl
theorem callE_unwrap_numbered (d : Nat) (hs : FHs) (args : List AV) (m : Mem) : callE (d + 1) hs n_unwrap_numbered args m = F_unwrap_numbered (callE d) hs args m := by kernel_rfl
theorem callE_unwrap_net_parts_1 (d : Nat) (hs : FHs) (args : List AV) (m : Mem) : callE (d + 1) hs n_unwrap_net_parts_1 args m = F_unwrap_net_parts_1 (callE d) hs args m := by kernel_rfl
theorem callE_unwrap_solver_ways (d : Nat) (hs : FHs) (args : List AV) (m : Mem) : callE (d + 1) hs n_unwrap_solver_ways args m = F_unwrap_solver_ways (callE d) hs args m := by kernel_rfl
theorem callE_unwrap_net_classes_1 (d : Nat) (hs : FHs) (args : List AV) (m : Mem) : callE (d + 1) hs n_unwrap_net_classes_1 args m = F_unwrap_net_classes_1 (callE d) hs args m := by kernel_rfl
theorem callE_unwrap_sides_1 (d : Nat) (hs : FHs) (args : List AV) (m : Mem) : callE (d + 1) hs n_unwrap_sides_1 args m = F_unwrap_sides_1 (callE d) hs args m := by kernel_rfl
theorem callE_slices_Repeat_int_int (d : Nat) (hs : FHs) (args : List AV) (m : Mem) : callE (d + 1) hs n_slices_Repeat_int_int args m = F_slices_Repeat_int_int (callE d) hs args m := by kernel_rfl
theorem callE_unwrap_numbered_1 (d : Nat) (hs : FHs) (args : List AV) (m : Mem) : callE (d + 1) hs n_unwrap_numbered_1 args m = F_unwrap_numbered_1 (callE d) hs args m := by kernel_rfl
theorem callE_unwrap_solver_arcs (d : Nat) (hs : FHs) (args : List AV) (m : Mem) : callE (d + 1) hs n_unwrap_solver_arcs args m = F_unwrap_solver_arcs (callE d) hs args m := by kernel_rfl
theorem callE_math_bits_Mul (d : Nat) (hs : FHs) (args : List AV) (m : Mem) : callE (d + 1) hs n_math_bits_Mul args m = F_math_bits_Mul (callE d) hs args m := by kernel_rfl
theorem callE_unwrap_solver_arcs_1 (d : Nat) (hs : FHs) (args : List AV) (m : Mem) : callE (d + 1) hs n_unwrap_solver_arcs_1 args m = F_unwrap_solver_arcs_1 (callE d) hs args m := by kernel_rfl
theorem callE_math_bits_Mul32 (d : Nat) (hs : FHs) (args : List AV) (m : Mem) : callE (d + 1) hs n_math_bits_Mul32 args m = F_math_bits_Mul32 (callE d) hs args m := by kernel_rfl
theorem callE_math_bits_Mul64 (d : Nat) (hs : FHs) (args : List AV) (m : Mem) : callE (d + 1) hs n_math_bits_Mul64 args m = F_math_bits_Mul64 (callE d) hs args m := by kernel_rfl
end Go.Ix
