/-
  The seat's tables for the symbolic executor: its types and functions, each by a closed fact.
-/
import Derived.Test.YtmnpeneplobpdaaDoorProg
import Derived.Test.YtmnpeneplobpdaaDoorSxTy
namespace Go.Proofs.YtmnpeneplobpdaaDoor.X
open Go Go.SX
set_option linter.unusedVariables false
def tys : List (Nat × Ty) := [
  (0, { d := .tup, size := 1, zero := some (.tup []), bytes := 0, eqs := none }),
  (1, { d := .func, size := 1, zero := some .nilFunc, bytes := 8, eqs := none }),
  (2, { d := .int .i64, size := 1, zero := some (.int .i64 (.z 0)), bytes := 8, eqs := none }),
  (3, { d := .int .i64, size := 1, zero := some (.int .i64 (.z 0)), bytes := 8, eqs := none }),
  (4, { d := .bool, size := 1, zero := some (.bool .f), bytes := 1, eqs := none }),
  (5, { d := .int .u8, size := 1, zero := some (.int .u8 (.z 0)), bytes := 1, eqs := none }),
  (6, { d := .int .u8, size := 1, zero := some (.int .u8 (.z 0)), bytes := 1, eqs := none }),
  (7, { d := .struct [(2, 0), (3, 1), (4, 2), (6, 3)], size := 4, zero := some (.agg [(.int .i64 (.z 0)), (.int .i64 (.z 0)), (.bool .f), (.int .u8 (.z 0))]), bytes := 24, eqs := some [false, false, true, false] }),
  (8, { d := .struct [(2, 0), (3, 1), (4, 2), (6, 3)], size := 4, zero := some (.agg [(.int .i64 (.z 0)), (.int .i64 (.z 0)), (.bool .f), (.int .u8 (.z 0))]), bytes := 24, eqs := some [false, false, true, false] }),
  (12, { d := .int .u64, size := 1, zero := some (.int .u64 (.z 0)), bytes := 8, eqs := none }),
  (15, { d := .ptr 85, size := 1, zero := some .nilp, bytes := 8, eqs := none }),
  (16, { d := .ptr 88, size := 1, zero := some .nilp, bytes := 8, eqs := none }),
  (17, { d := .ptr 96, size := 1, zero := some .nilp, bytes := 8, eqs := none }),
  (18, { d := .struct [(17, 0)], size := 1, zero := some (.agg [.nilp]), bytes := 8, eqs := none }),
  (19, { d := .struct [(17, 0)], size := 1, zero := some (.agg [.nilp]), bytes := 8, eqs := none }),
  (20, { d := .iface, size := 1, zero := some .nilIface, bytes := 16, eqs := none }),
  (21, { d := .int .i32, size := 1, zero := some (.int .i32 (.z 0)), bytes := 4, eqs := none }),
  (22, { d := .slice 3, size := 1, zero := some .nilRow, bytes := 24, eqs := none }),
  (23, { d := .func, size := 1, zero := some .nilFunc, bytes := 8, eqs := none }),
  (24, { d := .arr 8 4, size := 8, zero := some (.agg [(.bool .f), (.bool .f), (.bool .f), (.bool .f), (.bool .f), (.bool .f), (.bool .f), (.bool .f)]), bytes := 8, eqs := some [true, true, true, true, true, true, true, true] }),
  (25, { d := .int .i64, size := 1, zero := some (.int .i64 (.z 0)), bytes := 8, eqs := none }),
  (26, { d := .tup, size := 1, zero := none, bytes := 0, eqs := none }),
  (27, { d := .func, size := 1, zero := some .nilFunc, bytes := 8, eqs := none }),
  (28, { d := .func, size := 1, zero := some .nilFunc, bytes := 8, eqs := none }),
  (29, { d := .func, size := 1, zero := some .nilFunc, bytes := 8, eqs := none }),
  (30, { d := .func, size := 1, zero := some .nilFunc, bytes := 8, eqs := none }),
  (31, { d := .tup, size := 1, zero := some (.tup [.nilRow, .nilRow]), bytes := 0, eqs := none }),
  (32, { d := .func, size := 1, zero := some .nilFunc, bytes := 8, eqs := none }),
  (33, { d := .arr 8 3, size := 8, zero := some (.agg [(.int .i64 (.z 0)), (.int .i64 (.z 0)), (.int .i64 (.z 0)), (.int .i64 (.z 0)), (.int .i64 (.z 0)), (.int .i64 (.z 0)), (.int .i64 (.z 0)), (.int .i64 (.z 0))]), bytes := 64, eqs := some [false, false, false, false, false, false, false, false] }),
  (34, { d := .tup, size := 1, zero := none, bytes := 0, eqs := none }),
  (35, { d := .func, size := 1, zero := some .nilFunc, bytes := 8, eqs := none }),
  (36, { d := .func, size := 1, zero := some .nilFunc, bytes := 8, eqs := none }),
  (37, { d := .func, size := 1, zero := some .nilFunc, bytes := 8, eqs := none }),
  (38, { d := .tup, size := 1, zero := some (.tup [.nilRow, (.int .i64 (.z 0))]), bytes := 0, eqs := none }),
  (39, { d := .func, size := 1, zero := some .nilFunc, bytes := 8, eqs := none }),
  (40, { d := .func, size := 1, zero := some .nilFunc, bytes := 8, eqs := none }),
  (41, { d := .func, size := 1, zero := some .nilFunc, bytes := 8, eqs := none }),
  (42, { d := .func, size := 1, zero := some .nilFunc, bytes := 8, eqs := none }),
  (43, { d := .func, size := 1, zero := some .nilFunc, bytes := 8, eqs := none }),
  (44, { d := .func, size := 1, zero := some .nilFunc, bytes := 8, eqs := none }),
  (45, { d := .func, size := 1, zero := some .nilFunc, bytes := 8, eqs := none }),
  (46, { d := .slice 51, size := 1, zero := some .nilRow, bytes := 24, eqs := none }),
  (47, { d := .slice 51, size := 1, zero := some .nilRow, bytes := 24, eqs := none }),
  (48, { d := .tup, size := 1, zero := some (.tup [(.int .i64 (.z 0)), (.int .i64 (.z 0)), (.int .i64 (.z 0))]), bytes := 0, eqs := none }),
  (49, { d := .func, size := 1, zero := some .nilFunc, bytes := 8, eqs := none }),
  (50, { d := .struct [(3, 0), (3, 1), (3, 2)], size := 3, zero := some (.agg [(.int .i64 (.z 0)), (.int .i64 (.z 0)), (.int .i64 (.z 0))]), bytes := 24, eqs := some [false, false, false] }),
  (51, { d := .struct [(3, 0), (3, 1), (3, 2)], size := 3, zero := some (.agg [(.int .i64 (.z 0)), (.int .i64 (.z 0)), (.int .i64 (.z 0))]), bytes := 24, eqs := some [false, false, false] }),
  (52, { d := .func, size := 1, zero := some .nilFunc, bytes := 8, eqs := none }),
  (53, { d := .arr 8 52, size := 8, zero := some (.agg [.nilFunc, .nilFunc, .nilFunc, .nilFunc, .nilFunc, .nilFunc, .nilFunc, .nilFunc]), bytes := 64, eqs := none }),
  (54, { d := .func, size := 1, zero := some .nilFunc, bytes := 8, eqs := none }),
  (55, { d := .int .u64, size := 1, zero := some (.int .u64 (.z 0)), bytes := 8, eqs := none }),
  (56, { d := .func, size := 1, zero := some .nilFunc, bytes := 8, eqs := none }),
  (57, { d := .func, size := 1, zero := some .nilFunc, bytes := 8, eqs := none }),
  (58, { d := .func, size := 1, zero := some .nilFunc, bytes := 8, eqs := none }),
  (59, { d := .func, size := 1, zero := some .nilFunc, bytes := 8, eqs := none }),
  (60, { d := .func, size := 1, zero := some .nilFunc, bytes := 8, eqs := none }),
  (61, { d := .struct [(3, 0), (3, 1), (3, 2), (3, 3)], size := 4, zero := some (.agg [(.int .i64 (.z 0)), (.int .i64 (.z 0)), (.int .i64 (.z 0)), (.int .i64 (.z 0))]), bytes := 32, eqs := some [false, false, false, false] }),
  (62, { d := .struct [(3, 0), (3, 1), (3, 2), (3, 3)], size := 4, zero := some (.agg [(.int .i64 (.z 0)), (.int .i64 (.z 0)), (.int .i64 (.z 0)), (.int .i64 (.z 0))]), bytes := 32, eqs := some [false, false, false, false] }),
  (63, { d := .slice 62, size := 1, zero := some .nilRow, bytes := 24, eqs := none }),
  (64, { d := .func, size := 1, zero := some .nilFunc, bytes := 8, eqs := none }),
  (65, { d := .func, size := 1, zero := some .nilFunc, bytes := 8, eqs := none }),
  (66, { d := .func, size := 1, zero := some .nilFunc, bytes := 8, eqs := none }),
  (67, { d := .func, size := 1, zero := some .nilFunc, bytes := 8, eqs := none }),
  (68, { d := .func, size := 1, zero := some .nilFunc, bytes := 8, eqs := none }),
  (69, { d := .int .u32, size := 1, zero := some (.int .u32 (.z 0)), bytes := 4, eqs := none }),
  (70, { d := .func, size := 1, zero := some .nilFunc, bytes := 8, eqs := none }),
  (71, { d := .int .u64, size := 1, zero := some (.int .u64 (.z 0)), bytes := 8, eqs := none }),
  (72, { d := .tup, size := 1, zero := some (.tup [(.int .i64 (.z 0)), (.int .i64 (.z 0))]), bytes := 0, eqs := none }),
  (73, { d := .func, size := 1, zero := some .nilFunc, bytes := 8, eqs := none }),
  (74, { d := .func, size := 1, zero := some .nilFunc, bytes := 8, eqs := none }),
  (75, { d := .func, size := 1, zero := some .nilFunc, bytes := 8, eqs := none }),
  (76, { d := .func, size := 1, zero := some .nilFunc, bytes := 8, eqs := none }),
  (77, { d := .func, size := 1, zero := some .nilFunc, bytes := 8, eqs := none }),
  (78, { d := .func, size := 1, zero := some .nilFunc, bytes := 8, eqs := none }),
  (79, { d := .arr 32 5, size := 32, zero := some (.agg [(.int .u8 (.z 0)), (.int .u8 (.z 0)), (.int .u8 (.z 0)), (.int .u8 (.z 0)), (.int .u8 (.z 0)), (.int .u8 (.z 0)), (.int .u8 (.z 0)), (.int .u8 (.z 0)), (.int .u8 (.z 0)), (.int .u8 (.z 0)), (.int .u8 (.z 0)), (.int .u8 (.z 0)), (.int .u8 (.z 0)), (.int .u8 (.z 0)), (.int .u8 (.z 0)), (.int .u8 (.z 0)), (.int .u8 (.z 0)), (.int .u8 (.z 0)), (.int .u8 (.z 0)), (.int .u8 (.z 0)), (.int .u8 (.z 0)), (.int .u8 (.z 0)), (.int .u8 (.z 0)), (.int .u8 (.z 0)), (.int .u8 (.z 0)), (.int .u8 (.z 0)), (.int .u8 (.z 0)), (.int .u8 (.z 0)), (.int .u8 (.z 0)), (.int .u8 (.z 0)), (.int .u8 (.z 0)), (.int .u8 (.z 0))]), bytes := 32, eqs := some [false, false, false, false, false, false, false, false, false, false, false, false, false, false, false, false, false, false, false, false, false, false, false, false, false, false, false, false, false, false, false, false] }),
  (80, { d := .arr 64 5, size := 64, zero := some (.agg [(.int .u8 (.z 0)), (.int .u8 (.z 0)), (.int .u8 (.z 0)), (.int .u8 (.z 0)), (.int .u8 (.z 0)), (.int .u8 (.z 0)), (.int .u8 (.z 0)), (.int .u8 (.z 0)), (.int .u8 (.z 0)), (.int .u8 (.z 0)), (.int .u8 (.z 0)), (.int .u8 (.z 0)), (.int .u8 (.z 0)), (.int .u8 (.z 0)), (.int .u8 (.z 0)), (.int .u8 (.z 0)), (.int .u8 (.z 0)), (.int .u8 (.z 0)), (.int .u8 (.z 0)), (.int .u8 (.z 0)), (.int .u8 (.z 0)), (.int .u8 (.z 0)), (.int .u8 (.z 0)), (.int .u8 (.z 0)), (.int .u8 (.z 0)), (.int .u8 (.z 0)), (.int .u8 (.z 0)), (.int .u8 (.z 0)), (.int .u8 (.z 0)), (.int .u8 (.z 0)), (.int .u8 (.z 0)), (.int .u8 (.z 0)), (.int .u8 (.z 0)), (.int .u8 (.z 0)), (.int .u8 (.z 0)), (.int .u8 (.z 0)), (.int .u8 (.z 0)), (.int .u8 (.z 0)), (.int .u8 (.z 0)), (.int .u8 (.z 0)), (.int .u8 (.z 0)), (.int .u8 (.z 0)), (.int .u8 (.z 0)), (.int .u8 (.z 0)), (.int .u8 (.z 0)), (.int .u8 (.z 0)), (.int .u8 (.z 0)), (.int .u8 (.z 0)), (.int .u8 (.z 0)), (.int .u8 (.z 0)), (.int .u8 (.z 0)), (.int .u8 (.z 0)), (.int .u8 (.z 0)), (.int .u8 (.z 0)), (.int .u8 (.z 0)), (.int .u8 (.z 0)), (.int .u8 (.z 0)), (.int .u8 (.z 0)), (.int .u8 (.z 0)), (.int .u8 (.z 0)), (.int .u8 (.z 0)), (.int .u8 (.z 0)), (.int .u8 (.z 0)), (.int .u8 (.z 0))]), bytes := 64, eqs := some [false, false, false, false, false, false, false, false, false, false, false, false, false, false, false, false, false, false, false, false, false, false, false, false, false, false, false, false, false, false, false, false, false, false, false, false, false, false, false, false, false, false, false, false, false, false, false, false, false, false, false, false, false, false, false, false, false, false, false, false, false, false, false, false] }),
  (81, { d := .func, size := 1, zero := some .nilFunc, bytes := 8, eqs := none }),
  (82, { d := .func, size := 1, zero := some .nilFunc, bytes := 8, eqs := none }),
  (83, { d := .func, size := 1, zero := some .nilFunc, bytes := 8, eqs := none }),
  (86, { d := .arr 0 16, size := 0, zero := some (.agg []), bytes := 0, eqs := none }),
  (87, { d := .struct [(86, 0)], size := 0, zero := some (.agg []), bytes := 0, eqs := none }),
  (88, { d := .struct [(86, 0)], size := 0, zero := some (.agg []), bytes := 0, eqs := none }),
  (89, { d := .int .u8, size := 1, zero := some (.int .u8 (.z 0)), bytes := 1, eqs := none }),
  (90, { d := .int .u8, size := 1, zero := some (.int .u8 (.z 0)), bytes := 1, eqs := none }),
  (91, { d := .func, size := 1, zero := some .nilFunc, bytes := 8, eqs := none }),
  (92, { d := .ptr 5, size := 1, zero := some .nilp, bytes := 8, eqs := none }),
  (93, { d := .int .i32, size := 1, zero := some (.int .i32 (.z 0)), bytes := 4, eqs := none }),
  (94, { d := .int .i32, size := 1, zero := some (.int .i32 (.z 0)), bytes := 4, eqs := none }),
  (95, { d := .struct [(12, 0), (12, 1), (69, 2), (89, 3), (5, 4), (5, 5), (90, 6), (91, 7), (92, 8), (93, 9), (94, 10)], size := 11, zero := some (.agg [(.int .u64 (.z 0)), (.int .u64 (.z 0)), (.int .u32 (.z 0)), (.int .u8 (.z 0)), (.int .u8 (.z 0)), (.int .u8 (.z 0)), (.int .u8 (.z 0)), .nilFunc, .nilp, (.int .i32 (.z 0)), (.int .i32 (.z 0))]), bytes := 48, eqs := none }),
  (96, { d := .struct [(12, 0), (12, 1), (69, 2), (89, 3), (5, 4), (5, 5), (90, 6), (91, 7), (92, 8), (93, 9), (94, 10)], size := 11, zero := some (.agg [(.int .u64 (.z 0)), (.int .u64 (.z 0)), (.int .u32 (.z 0)), (.int .u8 (.z 0)), (.int .u8 (.z 0)), (.int .u8 (.z 0)), (.int .u8 (.z 0)), .nilFunc, .nilp, (.int .i32 (.z 0)), (.int .i32 (.z 0))]), bytes := 48, eqs := none })]
noncomputable def fns : List (Nat × Func) := [(2, Tryd.f2), (3, Tryd.f3), (4, Tryd.f4), (5, Tryd.f5), (6, Tryd.f6), (7, Tryd.f7), (8, Tryd.f8), (9, Tryd.f9), (10, Tryd.f10), (11, Tryd.f11), (12, Tryd.f12), (13, Tryd.f13), (14, Tryd.f14), (15, Tryd.f15), (16, Tryd.f16), (17, Tryd.f17), (18, Tryd.f18), (19, Tryd.f19), (20, Tryd.f20), (21, Tryd.f21), (22, Tryd.f22), (23, Tryd.f23), (24, Tryd.f24), (25, Tryd.f25), (26, Tryd.f26), (27, Tryd.f27), (28, Tryd.f28), (29, Tryd.f29), (30, Tryd.f30), (31, Tryd.f31), (32, Tryd.f32), (33, Tryd.f33), (34, Tryd.f34), (35, Tryd.f35), (36, Tryd.f36), (37, Tryd.f37), (38, Tryd.f38), (39, Tryd.f39), (40, Tryd.f40), (41, Tryd.f41), (42, Tryd.f42), (43, Tryd.f43), (44, Tryd.f44), (45, Tryd.f45), (46, Tryd.f46), (47, Tryd.f47), (48, Tryd.f48), (49, Tryd.f49), (50, Tryd.f50), (51, Tryd.f51), (52, Tryd.f52), (53, Tryd.f53), (54, Tryd.f54), (55, Tryd.f55), (56, Tryd.f56), (57, Tryd.f57), (58, Tryd.f58), (59, Tryd.f59), (60, Tryd.f60), (61, Tryd.f61), (62, Tryd.f62), (63, Tryd.f63), (84, Tryd.f84)]
theorem ty0 : TyOK Tryd.prog 0 { d := .tup, size := 1, zero := some (.tup []), bytes := 0, eqs := none } := tyMk (by kernel_rfl) (by kernel_rfl) noEq
theorem ty1 : TyOK Tryd.prog 1 { d := .func, size := 1, zero := some .nilFunc, bytes := 8, eqs := none } := tyMk (by kernel_rfl) (by kernel_rfl) noEq
theorem ty2 : TyOK Tryd.prog 2 { d := .int .i64, size := 1, zero := some (.int .i64 (.z 0)), bytes := 8, eqs := none } := tyMk (by kernel_rfl) (by kernel_rfl) noEq
theorem ty3 : TyOK Tryd.prog 3 { d := .int .i64, size := 1, zero := some (.int .i64 (.z 0)), bytes := 8, eqs := none } := tyMk (by kernel_rfl) (by kernel_rfl) noEq
theorem ty4 : TyOK Tryd.prog 4 { d := .bool, size := 1, zero := some (.bool .f), bytes := 1, eqs := none } := tyMk (by kernel_rfl) (by kernel_rfl) noEq
theorem ty5 : TyOK Tryd.prog 5 { d := .int .u8, size := 1, zero := some (.int .u8 (.z 0)), bytes := 1, eqs := none } := tyMk (by kernel_rfl) (by kernel_rfl) noEq
theorem ty6 : TyOK Tryd.prog 6 { d := .int .u8, size := 1, zero := some (.int .u8 (.z 0)), bytes := 1, eqs := none } := tyMk (by kernel_rfl) (by kernel_rfl) noEq
theorem ty7 : TyOK Tryd.prog 7 { d := .struct [(2, 0), (3, 1), (4, 2), (6, 3)], size := 4, zero := some (.agg [(.int .i64 (.z 0)), (.int .i64 (.z 0)), (.bool .f), (.int .u8 (.z 0))]), bytes := 24, eqs := some [false, false, true, false] } := tyMk (by kernel_rfl) (by kernel_rfl) (someEq (eqOK_of (by kernel_rfl) (by kernel_rfl)))
theorem ty8 : TyOK Tryd.prog 8 { d := .struct [(2, 0), (3, 1), (4, 2), (6, 3)], size := 4, zero := some (.agg [(.int .i64 (.z 0)), (.int .i64 (.z 0)), (.bool .f), (.int .u8 (.z 0))]), bytes := 24, eqs := some [false, false, true, false] } := tyMk (by kernel_rfl) (by kernel_rfl) (someEq (eqOK_of (by kernel_rfl) (by kernel_rfl)))
theorem ty12 : TyOK Tryd.prog 12 { d := .int .u64, size := 1, zero := some (.int .u64 (.z 0)), bytes := 8, eqs := none } := tyMk (by kernel_rfl) (by kernel_rfl) noEq
theorem ty15 : TyOK Tryd.prog 15 { d := .ptr 85, size := 1, zero := some .nilp, bytes := 8, eqs := none } := tyMk (by kernel_rfl) (by kernel_rfl) noEq
theorem ty16 : TyOK Tryd.prog 16 { d := .ptr 88, size := 1, zero := some .nilp, bytes := 8, eqs := none } := tyMk (by kernel_rfl) (by kernel_rfl) noEq
theorem ty17 : TyOK Tryd.prog 17 { d := .ptr 96, size := 1, zero := some .nilp, bytes := 8, eqs := none } := tyMk (by kernel_rfl) (by kernel_rfl) noEq
theorem ty18 : TyOK Tryd.prog 18 { d := .struct [(17, 0)], size := 1, zero := some (.agg [.nilp]), bytes := 8, eqs := none } := tyMk (by kernel_rfl) (by kernel_rfl) noEq
theorem ty19 : TyOK Tryd.prog 19 { d := .struct [(17, 0)], size := 1, zero := some (.agg [.nilp]), bytes := 8, eqs := none } := tyMk (by kernel_rfl) (by kernel_rfl) noEq
theorem ty20 : TyOK Tryd.prog 20 { d := .iface, size := 1, zero := some .nilIface, bytes := 16, eqs := none } := tyMk (by kernel_rfl) (by kernel_rfl) noEq
theorem ty21 : TyOK Tryd.prog 21 { d := .int .i32, size := 1, zero := some (.int .i32 (.z 0)), bytes := 4, eqs := none } := tyMk (by kernel_rfl) (by kernel_rfl) noEq
theorem ty22 : TyOK Tryd.prog 22 { d := .slice 3, size := 1, zero := some .nilRow, bytes := 24, eqs := none } := tyMk (by kernel_rfl) (by kernel_rfl) noEq
theorem ty23 : TyOK Tryd.prog 23 { d := .func, size := 1, zero := some .nilFunc, bytes := 8, eqs := none } := tyMk (by kernel_rfl) (by kernel_rfl) noEq
theorem ty24 : TyOK Tryd.prog 24 { d := .arr 8 4, size := 8, zero := some (.agg [(.bool .f), (.bool .f), (.bool .f), (.bool .f), (.bool .f), (.bool .f), (.bool .f), (.bool .f)]), bytes := 8, eqs := some [true, true, true, true, true, true, true, true] } := tyMk (by kernel_rfl) (by kernel_rfl) (someEq (eqOK_of (by kernel_rfl) (by kernel_rfl)))
theorem ty25 : TyOK Tryd.prog 25 { d := .int .i64, size := 1, zero := some (.int .i64 (.z 0)), bytes := 8, eqs := none } := tyMk (by kernel_rfl) (by kernel_rfl) noEq
theorem ty26 : TyOK Tryd.prog 26 { d := .tup, size := 1, zero := none, bytes := 0, eqs := none } := tyMk (by kernel_rfl) (by kernel_rfl) noEq
theorem ty27 : TyOK Tryd.prog 27 { d := .func, size := 1, zero := some .nilFunc, bytes := 8, eqs := none } := tyMk (by kernel_rfl) (by kernel_rfl) noEq
theorem ty28 : TyOK Tryd.prog 28 { d := .func, size := 1, zero := some .nilFunc, bytes := 8, eqs := none } := tyMk (by kernel_rfl) (by kernel_rfl) noEq
theorem ty29 : TyOK Tryd.prog 29 { d := .func, size := 1, zero := some .nilFunc, bytes := 8, eqs := none } := tyMk (by kernel_rfl) (by kernel_rfl) noEq
theorem ty30 : TyOK Tryd.prog 30 { d := .func, size := 1, zero := some .nilFunc, bytes := 8, eqs := none } := tyMk (by kernel_rfl) (by kernel_rfl) noEq
theorem ty31 : TyOK Tryd.prog 31 { d := .tup, size := 1, zero := some (.tup [.nilRow, .nilRow]), bytes := 0, eqs := none } := tyMk (by kernel_rfl) (by kernel_rfl) noEq
theorem ty32 : TyOK Tryd.prog 32 { d := .func, size := 1, zero := some .nilFunc, bytes := 8, eqs := none } := tyMk (by kernel_rfl) (by kernel_rfl) noEq
theorem ty33 : TyOK Tryd.prog 33 { d := .arr 8 3, size := 8, zero := some (.agg [(.int .i64 (.z 0)), (.int .i64 (.z 0)), (.int .i64 (.z 0)), (.int .i64 (.z 0)), (.int .i64 (.z 0)), (.int .i64 (.z 0)), (.int .i64 (.z 0)), (.int .i64 (.z 0))]), bytes := 64, eqs := some [false, false, false, false, false, false, false, false] } := tyMk (by kernel_rfl) (by kernel_rfl) (someEq (eqOK_of (by kernel_rfl) (by kernel_rfl)))
theorem ty34 : TyOK Tryd.prog 34 { d := .tup, size := 1, zero := none, bytes := 0, eqs := none } := tyMk (by kernel_rfl) (by kernel_rfl) noEq
theorem ty35 : TyOK Tryd.prog 35 { d := .func, size := 1, zero := some .nilFunc, bytes := 8, eqs := none } := tyMk (by kernel_rfl) (by kernel_rfl) noEq
theorem ty36 : TyOK Tryd.prog 36 { d := .func, size := 1, zero := some .nilFunc, bytes := 8, eqs := none } := tyMk (by kernel_rfl) (by kernel_rfl) noEq
theorem ty37 : TyOK Tryd.prog 37 { d := .func, size := 1, zero := some .nilFunc, bytes := 8, eqs := none } := tyMk (by kernel_rfl) (by kernel_rfl) noEq
theorem ty38 : TyOK Tryd.prog 38 { d := .tup, size := 1, zero := some (.tup [.nilRow, (.int .i64 (.z 0))]), bytes := 0, eqs := none } := tyMk (by kernel_rfl) (by kernel_rfl) noEq
theorem ty39 : TyOK Tryd.prog 39 { d := .func, size := 1, zero := some .nilFunc, bytes := 8, eqs := none } := tyMk (by kernel_rfl) (by kernel_rfl) noEq
theorem ty40 : TyOK Tryd.prog 40 { d := .func, size := 1, zero := some .nilFunc, bytes := 8, eqs := none } := tyMk (by kernel_rfl) (by kernel_rfl) noEq
theorem ty41 : TyOK Tryd.prog 41 { d := .func, size := 1, zero := some .nilFunc, bytes := 8, eqs := none } := tyMk (by kernel_rfl) (by kernel_rfl) noEq
theorem ty42 : TyOK Tryd.prog 42 { d := .func, size := 1, zero := some .nilFunc, bytes := 8, eqs := none } := tyMk (by kernel_rfl) (by kernel_rfl) noEq
theorem ty43 : TyOK Tryd.prog 43 { d := .func, size := 1, zero := some .nilFunc, bytes := 8, eqs := none } := tyMk (by kernel_rfl) (by kernel_rfl) noEq
theorem ty44 : TyOK Tryd.prog 44 { d := .func, size := 1, zero := some .nilFunc, bytes := 8, eqs := none } := tyMk (by kernel_rfl) (by kernel_rfl) noEq
theorem ty45 : TyOK Tryd.prog 45 { d := .func, size := 1, zero := some .nilFunc, bytes := 8, eqs := none } := tyMk (by kernel_rfl) (by kernel_rfl) noEq
theorem ty46 : TyOK Tryd.prog 46 { d := .slice 51, size := 1, zero := some .nilRow, bytes := 24, eqs := none } := tyMk (by kernel_rfl) (by kernel_rfl) noEq
theorem ty47 : TyOK Tryd.prog 47 { d := .slice 51, size := 1, zero := some .nilRow, bytes := 24, eqs := none } := tyMk (by kernel_rfl) (by kernel_rfl) noEq
theorem ty48 : TyOK Tryd.prog 48 { d := .tup, size := 1, zero := some (.tup [(.int .i64 (.z 0)), (.int .i64 (.z 0)), (.int .i64 (.z 0))]), bytes := 0, eqs := none } := tyMk (by kernel_rfl) (by kernel_rfl) noEq
theorem ty49 : TyOK Tryd.prog 49 { d := .func, size := 1, zero := some .nilFunc, bytes := 8, eqs := none } := tyMk (by kernel_rfl) (by kernel_rfl) noEq
theorem ty50 : TyOK Tryd.prog 50 { d := .struct [(3, 0), (3, 1), (3, 2)], size := 3, zero := some (.agg [(.int .i64 (.z 0)), (.int .i64 (.z 0)), (.int .i64 (.z 0))]), bytes := 24, eqs := some [false, false, false] } := tyMk (by kernel_rfl) (by kernel_rfl) (someEq (eqOK_of (by kernel_rfl) (by kernel_rfl)))
theorem ty51 : TyOK Tryd.prog 51 { d := .struct [(3, 0), (3, 1), (3, 2)], size := 3, zero := some (.agg [(.int .i64 (.z 0)), (.int .i64 (.z 0)), (.int .i64 (.z 0))]), bytes := 24, eqs := some [false, false, false] } := tyMk (by kernel_rfl) (by kernel_rfl) (someEq (eqOK_of (by kernel_rfl) (by kernel_rfl)))
theorem ty52 : TyOK Tryd.prog 52 { d := .func, size := 1, zero := some .nilFunc, bytes := 8, eqs := none } := tyMk (by kernel_rfl) (by kernel_rfl) noEq
theorem ty53 : TyOK Tryd.prog 53 { d := .arr 8 52, size := 8, zero := some (.agg [.nilFunc, .nilFunc, .nilFunc, .nilFunc, .nilFunc, .nilFunc, .nilFunc, .nilFunc]), bytes := 64, eqs := none } := tyMk (by kernel_rfl) (by kernel_rfl) noEq
theorem ty54 : TyOK Tryd.prog 54 { d := .func, size := 1, zero := some .nilFunc, bytes := 8, eqs := none } := tyMk (by kernel_rfl) (by kernel_rfl) noEq
theorem ty55 : TyOK Tryd.prog 55 { d := .int .u64, size := 1, zero := some (.int .u64 (.z 0)), bytes := 8, eqs := none } := tyMk (by kernel_rfl) (by kernel_rfl) noEq
theorem ty56 : TyOK Tryd.prog 56 { d := .func, size := 1, zero := some .nilFunc, bytes := 8, eqs := none } := tyMk (by kernel_rfl) (by kernel_rfl) noEq
theorem ty57 : TyOK Tryd.prog 57 { d := .func, size := 1, zero := some .nilFunc, bytes := 8, eqs := none } := tyMk (by kernel_rfl) (by kernel_rfl) noEq
theorem ty58 : TyOK Tryd.prog 58 { d := .func, size := 1, zero := some .nilFunc, bytes := 8, eqs := none } := tyMk (by kernel_rfl) (by kernel_rfl) noEq
theorem ty59 : TyOK Tryd.prog 59 { d := .func, size := 1, zero := some .nilFunc, bytes := 8, eqs := none } := tyMk (by kernel_rfl) (by kernel_rfl) noEq
theorem ty60 : TyOK Tryd.prog 60 { d := .func, size := 1, zero := some .nilFunc, bytes := 8, eqs := none } := tyMk (by kernel_rfl) (by kernel_rfl) noEq
theorem ty61 : TyOK Tryd.prog 61 { d := .struct [(3, 0), (3, 1), (3, 2), (3, 3)], size := 4, zero := some (.agg [(.int .i64 (.z 0)), (.int .i64 (.z 0)), (.int .i64 (.z 0)), (.int .i64 (.z 0))]), bytes := 32, eqs := some [false, false, false, false] } := tyMk (by kernel_rfl) (by kernel_rfl) (someEq (eqOK_of (by kernel_rfl) (by kernel_rfl)))
theorem ty62 : TyOK Tryd.prog 62 { d := .struct [(3, 0), (3, 1), (3, 2), (3, 3)], size := 4, zero := some (.agg [(.int .i64 (.z 0)), (.int .i64 (.z 0)), (.int .i64 (.z 0)), (.int .i64 (.z 0))]), bytes := 32, eqs := some [false, false, false, false] } := tyMk (by kernel_rfl) (by kernel_rfl) (someEq (eqOK_of (by kernel_rfl) (by kernel_rfl)))
theorem ty63 : TyOK Tryd.prog 63 { d := .slice 62, size := 1, zero := some .nilRow, bytes := 24, eqs := none } := tyMk (by kernel_rfl) (by kernel_rfl) noEq
theorem ty64 : TyOK Tryd.prog 64 { d := .func, size := 1, zero := some .nilFunc, bytes := 8, eqs := none } := tyMk (by kernel_rfl) (by kernel_rfl) noEq
theorem ty65 : TyOK Tryd.prog 65 { d := .func, size := 1, zero := some .nilFunc, bytes := 8, eqs := none } := tyMk (by kernel_rfl) (by kernel_rfl) noEq
theorem ty66 : TyOK Tryd.prog 66 { d := .func, size := 1, zero := some .nilFunc, bytes := 8, eqs := none } := tyMk (by kernel_rfl) (by kernel_rfl) noEq
theorem ty67 : TyOK Tryd.prog 67 { d := .func, size := 1, zero := some .nilFunc, bytes := 8, eqs := none } := tyMk (by kernel_rfl) (by kernel_rfl) noEq
theorem ty68 : TyOK Tryd.prog 68 { d := .func, size := 1, zero := some .nilFunc, bytes := 8, eqs := none } := tyMk (by kernel_rfl) (by kernel_rfl) noEq
theorem ty69 : TyOK Tryd.prog 69 { d := .int .u32, size := 1, zero := some (.int .u32 (.z 0)), bytes := 4, eqs := none } := tyMk (by kernel_rfl) (by kernel_rfl) noEq
theorem ty70 : TyOK Tryd.prog 70 { d := .func, size := 1, zero := some .nilFunc, bytes := 8, eqs := none } := tyMk (by kernel_rfl) (by kernel_rfl) noEq
theorem ty71 : TyOK Tryd.prog 71 { d := .int .u64, size := 1, zero := some (.int .u64 (.z 0)), bytes := 8, eqs := none } := tyMk (by kernel_rfl) (by kernel_rfl) noEq
theorem ty72 : TyOK Tryd.prog 72 { d := .tup, size := 1, zero := some (.tup [(.int .i64 (.z 0)), (.int .i64 (.z 0))]), bytes := 0, eqs := none } := tyMk (by kernel_rfl) (by kernel_rfl) noEq
theorem ty73 : TyOK Tryd.prog 73 { d := .func, size := 1, zero := some .nilFunc, bytes := 8, eqs := none } := tyMk (by kernel_rfl) (by kernel_rfl) noEq
theorem ty74 : TyOK Tryd.prog 74 { d := .func, size := 1, zero := some .nilFunc, bytes := 8, eqs := none } := tyMk (by kernel_rfl) (by kernel_rfl) noEq
theorem ty75 : TyOK Tryd.prog 75 { d := .func, size := 1, zero := some .nilFunc, bytes := 8, eqs := none } := tyMk (by kernel_rfl) (by kernel_rfl) noEq
theorem ty76 : TyOK Tryd.prog 76 { d := .func, size := 1, zero := some .nilFunc, bytes := 8, eqs := none } := tyMk (by kernel_rfl) (by kernel_rfl) noEq
theorem ty77 : TyOK Tryd.prog 77 { d := .func, size := 1, zero := some .nilFunc, bytes := 8, eqs := none } := tyMk (by kernel_rfl) (by kernel_rfl) noEq
theorem ty78 : TyOK Tryd.prog 78 { d := .func, size := 1, zero := some .nilFunc, bytes := 8, eqs := none } := tyMk (by kernel_rfl) (by kernel_rfl) noEq
theorem ty79 : TyOK Tryd.prog 79 { d := .arr 32 5, size := 32, zero := some (.agg [(.int .u8 (.z 0)), (.int .u8 (.z 0)), (.int .u8 (.z 0)), (.int .u8 (.z 0)), (.int .u8 (.z 0)), (.int .u8 (.z 0)), (.int .u8 (.z 0)), (.int .u8 (.z 0)), (.int .u8 (.z 0)), (.int .u8 (.z 0)), (.int .u8 (.z 0)), (.int .u8 (.z 0)), (.int .u8 (.z 0)), (.int .u8 (.z 0)), (.int .u8 (.z 0)), (.int .u8 (.z 0)), (.int .u8 (.z 0)), (.int .u8 (.z 0)), (.int .u8 (.z 0)), (.int .u8 (.z 0)), (.int .u8 (.z 0)), (.int .u8 (.z 0)), (.int .u8 (.z 0)), (.int .u8 (.z 0)), (.int .u8 (.z 0)), (.int .u8 (.z 0)), (.int .u8 (.z 0)), (.int .u8 (.z 0)), (.int .u8 (.z 0)), (.int .u8 (.z 0)), (.int .u8 (.z 0)), (.int .u8 (.z 0))]), bytes := 32, eqs := some [false, false, false, false, false, false, false, false, false, false, false, false, false, false, false, false, false, false, false, false, false, false, false, false, false, false, false, false, false, false, false, false] } := tyMk (by kernel_rfl) (by kernel_rfl) (someEq (eqOK_of (by kernel_rfl) (by kernel_rfl)))
theorem ty80 : TyOK Tryd.prog 80 { d := .arr 64 5, size := 64, zero := some (.agg [(.int .u8 (.z 0)), (.int .u8 (.z 0)), (.int .u8 (.z 0)), (.int .u8 (.z 0)), (.int .u8 (.z 0)), (.int .u8 (.z 0)), (.int .u8 (.z 0)), (.int .u8 (.z 0)), (.int .u8 (.z 0)), (.int .u8 (.z 0)), (.int .u8 (.z 0)), (.int .u8 (.z 0)), (.int .u8 (.z 0)), (.int .u8 (.z 0)), (.int .u8 (.z 0)), (.int .u8 (.z 0)), (.int .u8 (.z 0)), (.int .u8 (.z 0)), (.int .u8 (.z 0)), (.int .u8 (.z 0)), (.int .u8 (.z 0)), (.int .u8 (.z 0)), (.int .u8 (.z 0)), (.int .u8 (.z 0)), (.int .u8 (.z 0)), (.int .u8 (.z 0)), (.int .u8 (.z 0)), (.int .u8 (.z 0)), (.int .u8 (.z 0)), (.int .u8 (.z 0)), (.int .u8 (.z 0)), (.int .u8 (.z 0)), (.int .u8 (.z 0)), (.int .u8 (.z 0)), (.int .u8 (.z 0)), (.int .u8 (.z 0)), (.int .u8 (.z 0)), (.int .u8 (.z 0)), (.int .u8 (.z 0)), (.int .u8 (.z 0)), (.int .u8 (.z 0)), (.int .u8 (.z 0)), (.int .u8 (.z 0)), (.int .u8 (.z 0)), (.int .u8 (.z 0)), (.int .u8 (.z 0)), (.int .u8 (.z 0)), (.int .u8 (.z 0)), (.int .u8 (.z 0)), (.int .u8 (.z 0)), (.int .u8 (.z 0)), (.int .u8 (.z 0)), (.int .u8 (.z 0)), (.int .u8 (.z 0)), (.int .u8 (.z 0)), (.int .u8 (.z 0)), (.int .u8 (.z 0)), (.int .u8 (.z 0)), (.int .u8 (.z 0)), (.int .u8 (.z 0)), (.int .u8 (.z 0)), (.int .u8 (.z 0)), (.int .u8 (.z 0)), (.int .u8 (.z 0))]), bytes := 64, eqs := some [false, false, false, false, false, false, false, false, false, false, false, false, false, false, false, false, false, false, false, false, false, false, false, false, false, false, false, false, false, false, false, false, false, false, false, false, false, false, false, false, false, false, false, false, false, false, false, false, false, false, false, false, false, false, false, false, false, false, false, false, false, false, false, false] } := tyMk (by kernel_rfl) (by kernel_rfl) (someEq (eqOK_of (by kernel_rfl) (by kernel_rfl)))
theorem ty81 : TyOK Tryd.prog 81 { d := .func, size := 1, zero := some .nilFunc, bytes := 8, eqs := none } := tyMk (by kernel_rfl) (by kernel_rfl) noEq
theorem ty82 : TyOK Tryd.prog 82 { d := .func, size := 1, zero := some .nilFunc, bytes := 8, eqs := none } := tyMk (by kernel_rfl) (by kernel_rfl) noEq
theorem ty83 : TyOK Tryd.prog 83 { d := .func, size := 1, zero := some .nilFunc, bytes := 8, eqs := none } := tyMk (by kernel_rfl) (by kernel_rfl) noEq
theorem ty86 : TyOK Tryd.prog 86 { d := .arr 0 16, size := 0, zero := some (.agg []), bytes := 0, eqs := none } := tyMk (by kernel_rfl) (by kernel_rfl) noEq
theorem ty87 : TyOK Tryd.prog 87 { d := .struct [(86, 0)], size := 0, zero := some (.agg []), bytes := 0, eqs := none } := tyMk (by kernel_rfl) (by kernel_rfl) noEq
theorem ty88 : TyOK Tryd.prog 88 { d := .struct [(86, 0)], size := 0, zero := some (.agg []), bytes := 0, eqs := none } := tyMk (by kernel_rfl) (by kernel_rfl) noEq
theorem ty89 : TyOK Tryd.prog 89 { d := .int .u8, size := 1, zero := some (.int .u8 (.z 0)), bytes := 1, eqs := none } := tyMk (by kernel_rfl) (by kernel_rfl) noEq
theorem ty90 : TyOK Tryd.prog 90 { d := .int .u8, size := 1, zero := some (.int .u8 (.z 0)), bytes := 1, eqs := none } := tyMk (by kernel_rfl) (by kernel_rfl) noEq
theorem ty91 : TyOK Tryd.prog 91 { d := .func, size := 1, zero := some .nilFunc, bytes := 8, eqs := none } := tyMk (by kernel_rfl) (by kernel_rfl) noEq
theorem ty92 : TyOK Tryd.prog 92 { d := .ptr 5, size := 1, zero := some .nilp, bytes := 8, eqs := none } := tyMk (by kernel_rfl) (by kernel_rfl) noEq
theorem ty93 : TyOK Tryd.prog 93 { d := .int .i32, size := 1, zero := some (.int .i32 (.z 0)), bytes := 4, eqs := none } := tyMk (by kernel_rfl) (by kernel_rfl) noEq
theorem ty94 : TyOK Tryd.prog 94 { d := .int .i32, size := 1, zero := some (.int .i32 (.z 0)), bytes := 4, eqs := none } := tyMk (by kernel_rfl) (by kernel_rfl) noEq
theorem ty95 : TyOK Tryd.prog 95 { d := .struct [(12, 0), (12, 1), (69, 2), (89, 3), (5, 4), (5, 5), (90, 6), (91, 7), (92, 8), (93, 9), (94, 10)], size := 11, zero := some (.agg [(.int .u64 (.z 0)), (.int .u64 (.z 0)), (.int .u32 (.z 0)), (.int .u8 (.z 0)), (.int .u8 (.z 0)), (.int .u8 (.z 0)), (.int .u8 (.z 0)), .nilFunc, .nilp, (.int .i32 (.z 0)), (.int .i32 (.z 0))]), bytes := 48, eqs := none } := tyMk (by kernel_rfl) (by kernel_rfl) noEq
theorem ty96 : TyOK Tryd.prog 96 { d := .struct [(12, 0), (12, 1), (69, 2), (89, 3), (5, 4), (5, 5), (90, 6), (91, 7), (92, 8), (93, 9), (94, 10)], size := 11, zero := some (.agg [(.int .u64 (.z 0)), (.int .u64 (.z 0)), (.int .u32 (.z 0)), (.int .u8 (.z 0)), (.int .u8 (.z 0)), (.int .u8 (.z 0)), (.int .u8 (.z 0)), .nilFunc, .nilp, (.int .i32 (.z 0)), (.int .i32 (.z 0))]), bytes := 48, eqs := none } := tyMk (by kernel_rfl) (by kernel_rfl) noEq
theorem tysOK : ∀ t ty, find t tys = some ty → TyOK Tryd.prog t ty :=
  tyCons ty0 <| tyCons ty1 <| tyCons ty2 <| tyCons ty3 <| tyCons ty4 <| tyCons ty5 <| tyCons ty6 <| tyCons ty7 <| tyCons ty8 <| tyCons ty12 <| tyCons ty15 <| tyCons ty16 <| tyCons ty17 <| tyCons ty18 <| tyCons ty19 <| tyCons ty20 <| tyCons ty21 <| tyCons ty22 <| tyCons ty23 <| tyCons ty24 <| tyCons ty25 <| tyCons ty26 <| tyCons ty27 <| tyCons ty28 <| tyCons ty29 <| tyCons ty30 <| tyCons ty31 <| tyCons ty32 <| tyCons ty33 <| tyCons ty34 <| tyCons ty35 <| tyCons ty36 <| tyCons ty37 <| tyCons ty38 <| tyCons ty39 <| tyCons ty40 <| tyCons ty41 <| tyCons ty42 <| tyCons ty43 <| tyCons ty44 <| tyCons ty45 <| tyCons ty46 <| tyCons ty47 <| tyCons ty48 <| tyCons ty49 <| tyCons ty50 <| tyCons ty51 <| tyCons ty52 <| tyCons ty53 <| tyCons ty54 <| tyCons ty55 <| tyCons ty56 <| tyCons ty57 <| tyCons ty58 <| tyCons ty59 <| tyCons ty60 <| tyCons ty61 <| tyCons ty62 <| tyCons ty63 <| tyCons ty64 <| tyCons ty65 <| tyCons ty66 <| tyCons ty67 <| tyCons ty68 <| tyCons ty69 <| tyCons ty70 <| tyCons ty71 <| tyCons ty72 <| tyCons ty73 <| tyCons ty74 <| tyCons ty75 <| tyCons ty76 <| tyCons ty77 <| tyCons ty78 <| tyCons ty79 <| tyCons ty80 <| tyCons ty81 <| tyCons ty82 <| tyCons ty83 <| tyCons ty86 <| tyCons ty87 <| tyCons ty88 <| tyCons ty89 <| tyCons ty90 <| tyCons ty91 <| tyCons ty92 <| tyCons ty93 <| tyCons ty94 <| tyCons ty95 <| tyCons ty96 <| fun _ _ h => tyNil h
theorem fnsOK : ∀ f fn, find f fns = some fn → Tryd.prog.funcs[f]? = some fn ∧ (fn.name == "runtime.NumGoroutine") = false :=
  fnCons Tryd.func2 (by kernel_rfl) <| fnCons Tryd.func3 (by kernel_rfl) <| fnCons Tryd.func4 (by kernel_rfl) <| fnCons Tryd.func5 (by kernel_rfl) <| fnCons Tryd.func6 (by kernel_rfl) <| fnCons Tryd.func7 (by kernel_rfl) <| fnCons Tryd.func8 (by kernel_rfl) <| fnCons Tryd.func9 (by kernel_rfl) <| fnCons Tryd.func10 (by kernel_rfl) <| fnCons Tryd.func11 (by kernel_rfl) <| fnCons Tryd.func12 (by kernel_rfl) <| fnCons Tryd.func13 (by kernel_rfl) <| fnCons Tryd.func14 (by kernel_rfl) <| fnCons Tryd.func15 (by kernel_rfl) <| fnCons Tryd.func16 (by kernel_rfl) <| fnCons Tryd.func17 (by kernel_rfl) <| fnCons Tryd.func18 (by kernel_rfl) <| fnCons Tryd.func19 (by kernel_rfl) <| fnCons Tryd.func20 (by kernel_rfl) <| fnCons Tryd.func21 (by kernel_rfl) <| fnCons Tryd.func22 (by kernel_rfl) <| fnCons Tryd.func23 (by kernel_rfl) <| fnCons Tryd.func24 (by kernel_rfl) <| fnCons Tryd.func25 (by kernel_rfl) <| fnCons Tryd.func26 (by kernel_rfl) <| fnCons Tryd.func27 (by kernel_rfl) <| fnCons Tryd.func28 (by kernel_rfl) <| fnCons Tryd.func29 (by kernel_rfl) <| fnCons Tryd.func30 (by kernel_rfl) <| fnCons Tryd.func31 (by kernel_rfl) <| fnCons Tryd.func32 (by kernel_rfl) <| fnCons Tryd.func33 (by kernel_rfl) <| fnCons Tryd.func34 (by kernel_rfl) <| fnCons Tryd.func35 (by kernel_rfl) <| fnCons Tryd.func36 (by kernel_rfl) <| fnCons Tryd.func37 (by kernel_rfl) <| fnCons Tryd.func38 (by kernel_rfl) <| fnCons Tryd.func39 (by kernel_rfl) <| fnCons Tryd.func40 (by kernel_rfl) <| fnCons Tryd.func41 (by kernel_rfl) <| fnCons Tryd.func42 (by kernel_rfl) <| fnCons Tryd.func43 (by kernel_rfl) <| fnCons Tryd.func44 (by kernel_rfl) <| fnCons Tryd.func45 (by kernel_rfl) <| fnCons Tryd.func46 (by kernel_rfl) <| fnCons Tryd.func47 (by kernel_rfl) <| fnCons Tryd.func48 (by kernel_rfl) <| fnCons Tryd.func49 (by kernel_rfl) <| fnCons Tryd.func50 (by kernel_rfl) <| fnCons Tryd.func51 (by kernel_rfl) <| fnCons Tryd.func52 (by kernel_rfl) <| fnCons Tryd.func53 (by kernel_rfl) <| fnCons Tryd.func54 (by kernel_rfl) <| fnCons Tryd.func55 (by kernel_rfl) <| fnCons Tryd.func56 (by kernel_rfl) <| fnCons Tryd.func57 (by kernel_rfl) <| fnCons Tryd.func58 (by kernel_rfl) <| fnCons Tryd.func59 (by kernel_rfl) <| fnCons Tryd.func60 (by kernel_rfl) <| fnCons Tryd.func61 (by kernel_rfl) <| fnCons Tryd.func62 (by kernel_rfl) <| fnCons Tryd.func63 (by kernel_rfl) <| fnCons Tryd.func84 (by kernel_rfl) <| fun _ _ h => fnNil h
def mets : List (Nat × String × Nat) := [(47, "datum/nelson.beyond", 34), (47, "datum/nelson.count", 60), (47, "datum/nelson.each", 53), (47, "datum/nelson.far", 41), (47, "datum/nelson.four", 39), (47, "datum/nelson.last", 52), (47, "datum/nelson.near", 40), (47, "datum/nelson.side", 35), (47, "datum/nelson.steps", 55), (47, "datum/nelson.trend", 36), (47, "datum/nelson.turns", 37), (47, "datum/nelson.two", 38)]
theorem met0 : MetOK Tryd.prog 47 "datum/nelson.beyond" 34 := metMk (d := .slice 51) (by kernel_rfl) (by kernel_rfl) rfl
theorem met1 : MetOK Tryd.prog 47 "datum/nelson.count" 60 := metMk (d := .slice 51) (by kernel_rfl) (by kernel_rfl) rfl
theorem met2 : MetOK Tryd.prog 47 "datum/nelson.each" 53 := metMk (d := .slice 51) (by kernel_rfl) (by kernel_rfl) rfl
theorem met3 : MetOK Tryd.prog 47 "datum/nelson.far" 41 := metMk (d := .slice 51) (by kernel_rfl) (by kernel_rfl) rfl
theorem met4 : MetOK Tryd.prog 47 "datum/nelson.four" 39 := metMk (d := .slice 51) (by kernel_rfl) (by kernel_rfl) rfl
theorem met5 : MetOK Tryd.prog 47 "datum/nelson.last" 52 := metMk (d := .slice 51) (by kernel_rfl) (by kernel_rfl) rfl
theorem met6 : MetOK Tryd.prog 47 "datum/nelson.near" 40 := metMk (d := .slice 51) (by kernel_rfl) (by kernel_rfl) rfl
theorem met7 : MetOK Tryd.prog 47 "datum/nelson.side" 35 := metMk (d := .slice 51) (by kernel_rfl) (by kernel_rfl) rfl
theorem met8 : MetOK Tryd.prog 47 "datum/nelson.steps" 55 := metMk (d := .slice 51) (by kernel_rfl) (by kernel_rfl) rfl
theorem met9 : MetOK Tryd.prog 47 "datum/nelson.trend" 36 := metMk (d := .slice 51) (by kernel_rfl) (by kernel_rfl) rfl
theorem met10 : MetOK Tryd.prog 47 "datum/nelson.turns" 37 := metMk (d := .slice 51) (by kernel_rfl) (by kernel_rfl) rfl
theorem met11 : MetOK Tryd.prog 47 "datum/nelson.two" 38 := metMk (d := .slice 51) (by kernel_rfl) (by kernel_rfl) rfl
theorem metsOK : ∀ t m f, findM t m mets = some f → MetOK Tryd.prog t m f :=
  metCons met0 <| metCons met1 <| metCons met2 <| metCons met3 <| metCons met4 <| metCons met5 <| metCons met6 <| metCons met7 <| metCons met8 <| metCons met9 <| metCons met10 <| metCons met11 <| fun _ _ _ h => metNil h
theorem mixedOK : Tryd.prog.follows .mixedOrders = true := by kernel_rfl

/-- an int; a word of 64 bits; a number of 128 -/
def IsI (x : Int) : Prop := -9223372036854775808 ≤ x ∧ x ≤ 9223372036854775807
def IsU (x : Int) : Prop := 0 ≤ x ∧ x ≤ 18446744073709551615
def val (h l : Int) : Int := h * 18446744073709551616 + l
end Go.Proofs.YtmnpeneplobpdaaDoor.X
