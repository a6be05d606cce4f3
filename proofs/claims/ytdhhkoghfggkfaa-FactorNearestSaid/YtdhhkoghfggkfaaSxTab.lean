/-
  The seat's tables for the symbolic executor: its types and functions, each by a closed fact.
-/
import Derived.Test.YtdhhkoghfggkfaaProg
import Derived.Test.YtdhhkoghfggkfaaSxTy
namespace Go.Proofs.Ytdhhkoghfggkfaa.X
open Go Go.SX
set_option linter.unusedVariables false
def tys : List (Nat × Ty) := [
  (0, { d := .tup, size := 1, zero := some (.tup []), bytes := 0, eqs := none }),
  (1, { d := .func, size := 1, zero := some .nilFunc, bytes := 8, eqs := none }),
  (2, { d := .int .i64, size := 1, zero := some (.int .i64 (.z 0)), bytes := 8, eqs := none }),
  (3, { d := .int .i64, size := 1, zero := some (.int .i64 (.z 0)), bytes := 8, eqs := none }),
  (4, { d := .bool, size := 1, zero := some (.bool .f), bytes := 1, eqs := none }),
  (5, { d := .int .u8, size := 1, zero := some (.int .u8 (.z 0)), bytes := 1, eqs := none }),
  (6, { d := .int .u8, size := 1, zero := some (.int .u8 (.z 0)), bytes := 1, eqs := none }),
  (7, { d := .struct [(2, 0), (3, 1), (4, 2), (6, 3)], size := 4, zero := some (.agg [(.int .i64 (.z 0)), (.int .i64 (.z 0)), (.bool .f), (.int .u8 (.z 0))]), bytes := 24, eqs := some [false, false, true, false] }),
  (8, { d := .struct [(2, 0), (3, 1), (4, 2), (6, 3)], size := 4, zero := some (.agg [(.int .i64 (.z 0)), (.int .i64 (.z 0)), (.bool .f), (.int .u8 (.z 0))]), bytes := 24, eqs := some [false, false, true, false] }),
  (12, { d := .int .u64, size := 1, zero := some (.int .u64 (.z 0)), bytes := 8, eqs := none }),
  (15, { d := .ptr 75, size := 1, zero := some .nilp, bytes := 8, eqs := none }),
  (16, { d := .ptr 78, size := 1, zero := some .nilp, bytes := 8, eqs := none }),
  (17, { d := .ptr 87, size := 1, zero := some .nilp, bytes := 8, eqs := none }),
  (18, { d := .struct [(17, 0)], size := 1, zero := some (.agg [.nilp]), bytes := 8, eqs := none }),
  (19, { d := .struct [(17, 0)], size := 1, zero := some (.agg [.nilp]), bytes := 8, eqs := none }),
  (20, { d := .iface, size := 1, zero := some .nilIface, bytes := 16, eqs := none }),
  (21, { d := .int .i32, size := 1, zero := some (.int .i32 (.z 0)), bytes := 4, eqs := none }),
  (22, { d := .arr 7 3, size := 7, zero := some (.agg [(.int .i64 (.z 0)), (.int .i64 (.z 0)), (.int .i64 (.z 0)), (.int .i64 (.z 0)), (.int .i64 (.z 0)), (.int .i64 (.z 0)), (.int .i64 (.z 0))]), bytes := 56, eqs := none }),
  (23, { d := .int .i64, size := 1, zero := some (.int .i64 (.z 0)), bytes := 8, eqs := none }),
  (24, { d := .tup, size := 1, zero := none, bytes := 0, eqs := none }),
  (25, { d := .func, size := 1, zero := some .nilFunc, bytes := 8, eqs := none }),
  (26, { d := .func, size := 1, zero := some .nilFunc, bytes := 8, eqs := none }),
  (27, { d := .slice 3, size := 1, zero := some .nilRow, bytes := 24, eqs := none }),
  (28, { d := .func, size := 1, zero := some .nilFunc, bytes := 8, eqs := none }),
  (29, { d := .tup, size := 1, zero := some (.tup [(.int .i64 (.z 0)), (.int .i64 (.z 0))]), bytes := 0, eqs := none }),
  (30, { d := .func, size := 1, zero := some .nilFunc, bytes := 8, eqs := none }),
  (31, { d := .func, size := 1, zero := some .nilFunc, bytes := 8, eqs := none }),
  (32, { d := .func, size := 1, zero := some .nilFunc, bytes := 8, eqs := none }),
  (33, { d := .ptr 49, size := 1, zero := some .nilp, bytes := 8, eqs := none }),
  (34, { d := .struct [], size := 0, zero := some (.agg []), bytes := 0, eqs := some [] }),
  (35, { d := .struct [], size := 0, zero := some (.agg []), bytes := 0, eqs := some [] }),
  (36, { d := .struct [], size := 0, zero := some (.agg []), bytes := 0, eqs := some [] }),
  (37, { d := .int .u32, size := 1, zero := some (.int .u32 (.z 0)), bytes := 4, eqs := none }),
  (38, { d := .struct [(36, 0), (37, 0)], size := 1, zero := some (.agg [(.int .u32 (.z 0))]), bytes := 4, eqs := none }),
  (39, { d := .struct [(36, 0), (37, 0)], size := 1, zero := some (.agg [(.int .u32 (.z 0))]), bytes := 4, eqs := none }),
  (40, { d := .struct [(21, 0), (37, 1)], size := 2, zero := some (.agg [(.int .i32 (.z 0)), (.int .u32 (.z 0))]), bytes := 8, eqs := some [false, false] }),
  (41, { d := .struct [(21, 0), (37, 1)], size := 2, zero := some (.agg [(.int .i32 (.z 0)), (.int .u32 (.z 0))]), bytes := 8, eqs := some [false, false] }),
  (42, { d := .struct [(35, 0), (41, 0)], size := 2, zero := some (.agg [(.int .i32 (.z 0)), (.int .u32 (.z 0))]), bytes := 8, eqs := none }),
  (43, { d := .struct [(35, 0), (41, 0)], size := 2, zero := some (.agg [(.int .i32 (.z 0)), (.int .u32 (.z 0))]), bytes := 8, eqs := none }),
  (44, { d := .struct [(35, 0), (39, 0), (43, 1)], size := 3, zero := some (.agg [(.int .u32 (.z 0)), (.int .i32 (.z 0)), (.int .u32 (.z 0))]), bytes := 12, eqs := none }),
  (45, { d := .struct [(35, 0), (39, 0), (43, 1)], size := 3, zero := some (.agg [(.int .u32 (.z 0)), (.int .i32 (.z 0)), (.int .u32 (.z 0))]), bytes := 12, eqs := none }),
  (46, { d := .arr 9 3, size := 9, zero := some (.agg [(.int .i64 (.z 0)), (.int .i64 (.z 0)), (.int .i64 (.z 0)), (.int .i64 (.z 0)), (.int .i64 (.z 0)), (.int .i64 (.z 0)), (.int .i64 (.z 0)), (.int .i64 (.z 0)), (.int .i64 (.z 0))]), bytes := 72, eqs := none }),
  (47, { d := .arr 7 46, size := 63, zero := some (.agg [(.int .i64 (.z 0)), (.int .i64 (.z 0)), (.int .i64 (.z 0)), (.int .i64 (.z 0)), (.int .i64 (.z 0)), (.int .i64 (.z 0)), (.int .i64 (.z 0)), (.int .i64 (.z 0)), (.int .i64 (.z 0)), (.int .i64 (.z 0)), (.int .i64 (.z 0)), (.int .i64 (.z 0)), (.int .i64 (.z 0)), (.int .i64 (.z 0)), (.int .i64 (.z 0)), (.int .i64 (.z 0)), (.int .i64 (.z 0)), (.int .i64 (.z 0)), (.int .i64 (.z 0)), (.int .i64 (.z 0)), (.int .i64 (.z 0)), (.int .i64 (.z 0)), (.int .i64 (.z 0)), (.int .i64 (.z 0)), (.int .i64 (.z 0)), (.int .i64 (.z 0)), (.int .i64 (.z 0)), (.int .i64 (.z 0)), (.int .i64 (.z 0)), (.int .i64 (.z 0)), (.int .i64 (.z 0)), (.int .i64 (.z 0)), (.int .i64 (.z 0)), (.int .i64 (.z 0)), (.int .i64 (.z 0)), (.int .i64 (.z 0)), (.int .i64 (.z 0)), (.int .i64 (.z 0)), (.int .i64 (.z 0)), (.int .i64 (.z 0)), (.int .i64 (.z 0)), (.int .i64 (.z 0)), (.int .i64 (.z 0)), (.int .i64 (.z 0)), (.int .i64 (.z 0)), (.int .i64 (.z 0)), (.int .i64 (.z 0)), (.int .i64 (.z 0)), (.int .i64 (.z 0)), (.int .i64 (.z 0)), (.int .i64 (.z 0)), (.int .i64 (.z 0)), (.int .i64 (.z 0)), (.int .i64 (.z 0)), (.int .i64 (.z 0)), (.int .i64 (.z 0)), (.int .i64 (.z 0)), (.int .i64 (.z 0)), (.int .i64 (.z 0)), (.int .i64 (.z 0)), (.int .i64 (.z 0)), (.int .i64 (.z 0)), (.int .i64 (.z 0))]), bytes := 504, eqs := none }),
  (48, { d := .struct [(45, 0), (47, 3)], size := 66, zero := some (.agg [(.int .u32 (.z 0)), (.int .i32 (.z 0)), (.int .u32 (.z 0)), (.int .i64 (.z 0)), (.int .i64 (.z 0)), (.int .i64 (.z 0)), (.int .i64 (.z 0)), (.int .i64 (.z 0)), (.int .i64 (.z 0)), (.int .i64 (.z 0)), (.int .i64 (.z 0)), (.int .i64 (.z 0)), (.int .i64 (.z 0)), (.int .i64 (.z 0)), (.int .i64 (.z 0)), (.int .i64 (.z 0)), (.int .i64 (.z 0)), (.int .i64 (.z 0)), (.int .i64 (.z 0)), (.int .i64 (.z 0)), (.int .i64 (.z 0)), (.int .i64 (.z 0)), (.int .i64 (.z 0)), (.int .i64 (.z 0)), (.int .i64 (.z 0)), (.int .i64 (.z 0)), (.int .i64 (.z 0)), (.int .i64 (.z 0)), (.int .i64 (.z 0)), (.int .i64 (.z 0)), (.int .i64 (.z 0)), (.int .i64 (.z 0)), (.int .i64 (.z 0)), (.int .i64 (.z 0)), (.int .i64 (.z 0)), (.int .i64 (.z 0)), (.int .i64 (.z 0)), (.int .i64 (.z 0)), (.int .i64 (.z 0)), (.int .i64 (.z 0)), (.int .i64 (.z 0)), (.int .i64 (.z 0)), (.int .i64 (.z 0)), (.int .i64 (.z 0)), (.int .i64 (.z 0)), (.int .i64 (.z 0)), (.int .i64 (.z 0)), (.int .i64 (.z 0)), (.int .i64 (.z 0)), (.int .i64 (.z 0)), (.int .i64 (.z 0)), (.int .i64 (.z 0)), (.int .i64 (.z 0)), (.int .i64 (.z 0)), (.int .i64 (.z 0)), (.int .i64 (.z 0)), (.int .i64 (.z 0)), (.int .i64 (.z 0)), (.int .i64 (.z 0)), (.int .i64 (.z 0)), (.int .i64 (.z 0)), (.int .i64 (.z 0)), (.int .i64 (.z 0)), (.int .i64 (.z 0)), (.int .i64 (.z 0)), (.int .i64 (.z 0))]), bytes := 520, eqs := none }),
  (49, { d := .struct [(45, 0), (47, 3)], size := 66, zero := some (.agg [(.int .u32 (.z 0)), (.int .i32 (.z 0)), (.int .u32 (.z 0)), (.int .i64 (.z 0)), (.int .i64 (.z 0)), (.int .i64 (.z 0)), (.int .i64 (.z 0)), (.int .i64 (.z 0)), (.int .i64 (.z 0)), (.int .i64 (.z 0)), (.int .i64 (.z 0)), (.int .i64 (.z 0)), (.int .i64 (.z 0)), (.int .i64 (.z 0)), (.int .i64 (.z 0)), (.int .i64 (.z 0)), (.int .i64 (.z 0)), (.int .i64 (.z 0)), (.int .i64 (.z 0)), (.int .i64 (.z 0)), (.int .i64 (.z 0)), (.int .i64 (.z 0)), (.int .i64 (.z 0)), (.int .i64 (.z 0)), (.int .i64 (.z 0)), (.int .i64 (.z 0)), (.int .i64 (.z 0)), (.int .i64 (.z 0)), (.int .i64 (.z 0)), (.int .i64 (.z 0)), (.int .i64 (.z 0)), (.int .i64 (.z 0)), (.int .i64 (.z 0)), (.int .i64 (.z 0)), (.int .i64 (.z 0)), (.int .i64 (.z 0)), (.int .i64 (.z 0)), (.int .i64 (.z 0)), (.int .i64 (.z 0)), (.int .i64 (.z 0)), (.int .i64 (.z 0)), (.int .i64 (.z 0)), (.int .i64 (.z 0)), (.int .i64 (.z 0)), (.int .i64 (.z 0)), (.int .i64 (.z 0)), (.int .i64 (.z 0)), (.int .i64 (.z 0)), (.int .i64 (.z 0)), (.int .i64 (.z 0)), (.int .i64 (.z 0)), (.int .i64 (.z 0)), (.int .i64 (.z 0)), (.int .i64 (.z 0)), (.int .i64 (.z 0)), (.int .i64 (.z 0)), (.int .i64 (.z 0)), (.int .i64 (.z 0)), (.int .i64 (.z 0)), (.int .i64 (.z 0)), (.int .i64 (.z 0)), (.int .i64 (.z 0)), (.int .i64 (.z 0)), (.int .i64 (.z 0)), (.int .i64 (.z 0)), (.int .i64 (.z 0))]), bytes := 520, eqs := none }),
  (50, { d := .int .u64, size := 1, zero := some (.int .u64 (.z 0)), bytes := 8, eqs := none }),
  (51, { d := .func, size := 1, zero := some .nilFunc, bytes := 8, eqs := none }),
  (52, { d := .func, size := 1, zero := some .nilFunc, bytes := 8, eqs := none }),
  (53, { d := .func, size := 1, zero := some .nilFunc, bytes := 8, eqs := none }),
  (54, { d := .ptr 45, size := 1, zero := some .nilp, bytes := 8, eqs := none }),
  (55, { d := .ptr 39, size := 1, zero := some .nilp, bytes := 8, eqs := none }),
  (56, { d := .func, size := 1, zero := some .nilFunc, bytes := 8, eqs := none }),
  (57, { d := .ptr 37, size := 1, zero := some .nilp, bytes := 8, eqs := none }),
  (58, { d := .func, size := 1, zero := some .nilFunc, bytes := 8, eqs := none }),
  (59, { d := .ptr 43, size := 1, zero := some .nilp, bytes := 8, eqs := none }),
  (60, { d := .func, size := 1, zero := some .nilFunc, bytes := 8, eqs := none }),
  (61, { d := .func, size := 1, zero := some .nilFunc, bytes := 8, eqs := none }),
  (62, { d := .ptr 41, size := 1, zero := some .nilp, bytes := 8, eqs := none }),
  (63, { d := .func, size := 1, zero := some .nilFunc, bytes := 8, eqs := none }),
  (64, { d := .ptr 21, size := 1, zero := some .nilp, bytes := 8, eqs := none }),
  (65, { d := .func, size := 1, zero := some .nilFunc, bytes := 8, eqs := none }),
  (67, { d := .func, size := 1, zero := some .nilFunc, bytes := 8, eqs := none }),
  (68, { d := .func, size := 1, zero := some .nilFunc, bytes := 8, eqs := none }),
  (69, { d := .int .u64, size := 1, zero := some (.int .u64 (.z 0)), bytes := 8, eqs := none }),
  (70, { d := .func, size := 1, zero := some .nilFunc, bytes := 8, eqs := none }),
  (71, { d := .func, size := 1, zero := some .nilFunc, bytes := 8, eqs := none }),
  (72, { d := .func, size := 1, zero := some .nilFunc, bytes := 8, eqs := none }),
  (73, { d := .func, size := 1, zero := some .nilFunc, bytes := 8, eqs := none }),
  (76, { d := .arr 0 16, size := 0, zero := some (.agg []), bytes := 0, eqs := none }),
  (77, { d := .struct [(76, 0)], size := 0, zero := some (.agg []), bytes := 0, eqs := none }),
  (78, { d := .struct [(76, 0)], size := 0, zero := some (.agg []), bytes := 0, eqs := none }),
  (79, { d := .func, size := 1, zero := some .nilFunc, bytes := 8, eqs := none }),
  (80, { d := .int .u8, size := 1, zero := some (.int .u8 (.z 0)), bytes := 1, eqs := none }),
  (81, { d := .int .u8, size := 1, zero := some (.int .u8 (.z 0)), bytes := 1, eqs := none }),
  (82, { d := .func, size := 1, zero := some .nilFunc, bytes := 8, eqs := none }),
  (83, { d := .ptr 5, size := 1, zero := some .nilp, bytes := 8, eqs := none }),
  (84, { d := .int .i32, size := 1, zero := some (.int .i32 (.z 0)), bytes := 4, eqs := none }),
  (85, { d := .int .i32, size := 1, zero := some (.int .i32 (.z 0)), bytes := 4, eqs := none }),
  (86, { d := .struct [(12, 0), (12, 1), (37, 2), (80, 3), (5, 4), (5, 5), (81, 6), (82, 7), (83, 8), (84, 9), (85, 10)], size := 11, zero := some (.agg [(.int .u64 (.z 0)), (.int .u64 (.z 0)), (.int .u32 (.z 0)), (.int .u8 (.z 0)), (.int .u8 (.z 0)), (.int .u8 (.z 0)), (.int .u8 (.z 0)), .nilFunc, .nilp, (.int .i32 (.z 0)), (.int .i32 (.z 0))]), bytes := 48, eqs := none }),
  (87, { d := .struct [(12, 0), (12, 1), (37, 2), (80, 3), (5, 4), (5, 5), (81, 6), (82, 7), (83, 8), (84, 9), (85, 10)], size := 11, zero := some (.agg [(.int .u64 (.z 0)), (.int .u64 (.z 0)), (.int .u32 (.z 0)), (.int .u8 (.z 0)), (.int .u8 (.z 0)), (.int .u8 (.z 0)), (.int .u8 (.z 0)), .nilFunc, .nilp, (.int .i32 (.z 0)), (.int .i32 (.z 0))]), bytes := 48, eqs := none })]
noncomputable def fns : List (Nat × Func) := [(2, Try.f2), (3, Try.f3), (4, Try.f4), (5, Try.f5), (6, Try.f6), (7, Try.f7), (8, Try.f8), (9, Try.f9), (10, Try.f10), (11, Try.f11), (12, Try.f12), (13, Try.f13), (14, Try.f14), (15, Try.f15), (16, Try.f16), (17, Try.f17), (18, Try.f18), (19, Try.f19), (20, Try.f20), (21, Try.f21), (22, Try.f22), (23, Try.f23), (25, Try.f25), (26, Try.f26), (27, Try.f27), (28, Try.f28), (29, Try.f29), (31, Try.f31), (36, Try.f36), (39, Try.f39)]
theorem ty0 : TyOK Try.prog 0 { d := .tup, size := 1, zero := some (.tup []), bytes := 0, eqs := none } := tyMk (by kernel_rfl) (by kernel_rfl) noEq
theorem ty1 : TyOK Try.prog 1 { d := .func, size := 1, zero := some .nilFunc, bytes := 8, eqs := none } := tyMk (by kernel_rfl) (by kernel_rfl) noEq
theorem ty2 : TyOK Try.prog 2 { d := .int .i64, size := 1, zero := some (.int .i64 (.z 0)), bytes := 8, eqs := none } := tyMk (by kernel_rfl) (by kernel_rfl) noEq
theorem ty3 : TyOK Try.prog 3 { d := .int .i64, size := 1, zero := some (.int .i64 (.z 0)), bytes := 8, eqs := none } := tyMk (by kernel_rfl) (by kernel_rfl) noEq
theorem ty4 : TyOK Try.prog 4 { d := .bool, size := 1, zero := some (.bool .f), bytes := 1, eqs := none } := tyMk (by kernel_rfl) (by kernel_rfl) noEq
theorem ty5 : TyOK Try.prog 5 { d := .int .u8, size := 1, zero := some (.int .u8 (.z 0)), bytes := 1, eqs := none } := tyMk (by kernel_rfl) (by kernel_rfl) noEq
theorem ty6 : TyOK Try.prog 6 { d := .int .u8, size := 1, zero := some (.int .u8 (.z 0)), bytes := 1, eqs := none } := tyMk (by kernel_rfl) (by kernel_rfl) noEq
theorem ty7 : TyOK Try.prog 7 { d := .struct [(2, 0), (3, 1), (4, 2), (6, 3)], size := 4, zero := some (.agg [(.int .i64 (.z 0)), (.int .i64 (.z 0)), (.bool .f), (.int .u8 (.z 0))]), bytes := 24, eqs := some [false, false, true, false] } := tyMk (by kernel_rfl) (by kernel_rfl) (someEq (eqOK_of (by kernel_rfl) (by kernel_rfl)))
theorem ty8 : TyOK Try.prog 8 { d := .struct [(2, 0), (3, 1), (4, 2), (6, 3)], size := 4, zero := some (.agg [(.int .i64 (.z 0)), (.int .i64 (.z 0)), (.bool .f), (.int .u8 (.z 0))]), bytes := 24, eqs := some [false, false, true, false] } := tyMk (by kernel_rfl) (by kernel_rfl) (someEq (eqOK_of (by kernel_rfl) (by kernel_rfl)))
theorem ty12 : TyOK Try.prog 12 { d := .int .u64, size := 1, zero := some (.int .u64 (.z 0)), bytes := 8, eqs := none } := tyMk (by kernel_rfl) (by kernel_rfl) noEq
theorem ty15 : TyOK Try.prog 15 { d := .ptr 75, size := 1, zero := some .nilp, bytes := 8, eqs := none } := tyMk (by kernel_rfl) (by kernel_rfl) noEq
theorem ty16 : TyOK Try.prog 16 { d := .ptr 78, size := 1, zero := some .nilp, bytes := 8, eqs := none } := tyMk (by kernel_rfl) (by kernel_rfl) noEq
theorem ty17 : TyOK Try.prog 17 { d := .ptr 87, size := 1, zero := some .nilp, bytes := 8, eqs := none } := tyMk (by kernel_rfl) (by kernel_rfl) noEq
theorem ty18 : TyOK Try.prog 18 { d := .struct [(17, 0)], size := 1, zero := some (.agg [.nilp]), bytes := 8, eqs := none } := tyMk (by kernel_rfl) (by kernel_rfl) noEq
theorem ty19 : TyOK Try.prog 19 { d := .struct [(17, 0)], size := 1, zero := some (.agg [.nilp]), bytes := 8, eqs := none } := tyMk (by kernel_rfl) (by kernel_rfl) noEq
theorem ty20 : TyOK Try.prog 20 { d := .iface, size := 1, zero := some .nilIface, bytes := 16, eqs := none } := tyMk (by kernel_rfl) (by kernel_rfl) noEq
theorem ty21 : TyOK Try.prog 21 { d := .int .i32, size := 1, zero := some (.int .i32 (.z 0)), bytes := 4, eqs := none } := tyMk (by kernel_rfl) (by kernel_rfl) noEq
theorem ty22 : TyOK Try.prog 22 { d := .arr 7 3, size := 7, zero := some (.agg [(.int .i64 (.z 0)), (.int .i64 (.z 0)), (.int .i64 (.z 0)), (.int .i64 (.z 0)), (.int .i64 (.z 0)), (.int .i64 (.z 0)), (.int .i64 (.z 0))]), bytes := 56, eqs := none } := tyMk (by kernel_rfl) (by kernel_rfl) noEq
theorem ty23 : TyOK Try.prog 23 { d := .int .i64, size := 1, zero := some (.int .i64 (.z 0)), bytes := 8, eqs := none } := tyMk (by kernel_rfl) (by kernel_rfl) noEq
theorem ty24 : TyOK Try.prog 24 { d := .tup, size := 1, zero := none, bytes := 0, eqs := none } := tyMk (by kernel_rfl) (by kernel_rfl) noEq
theorem ty25 : TyOK Try.prog 25 { d := .func, size := 1, zero := some .nilFunc, bytes := 8, eqs := none } := tyMk (by kernel_rfl) (by kernel_rfl) noEq
theorem ty26 : TyOK Try.prog 26 { d := .func, size := 1, zero := some .nilFunc, bytes := 8, eqs := none } := tyMk (by kernel_rfl) (by kernel_rfl) noEq
theorem ty27 : TyOK Try.prog 27 { d := .slice 3, size := 1, zero := some .nilRow, bytes := 24, eqs := none } := tyMk (by kernel_rfl) (by kernel_rfl) noEq
theorem ty28 : TyOK Try.prog 28 { d := .func, size := 1, zero := some .nilFunc, bytes := 8, eqs := none } := tyMk (by kernel_rfl) (by kernel_rfl) noEq
theorem ty29 : TyOK Try.prog 29 { d := .tup, size := 1, zero := some (.tup [(.int .i64 (.z 0)), (.int .i64 (.z 0))]), bytes := 0, eqs := none } := tyMk (by kernel_rfl) (by kernel_rfl) noEq
theorem ty30 : TyOK Try.prog 30 { d := .func, size := 1, zero := some .nilFunc, bytes := 8, eqs := none } := tyMk (by kernel_rfl) (by kernel_rfl) noEq
theorem ty31 : TyOK Try.prog 31 { d := .func, size := 1, zero := some .nilFunc, bytes := 8, eqs := none } := tyMk (by kernel_rfl) (by kernel_rfl) noEq
theorem ty32 : TyOK Try.prog 32 { d := .func, size := 1, zero := some .nilFunc, bytes := 8, eqs := none } := tyMk (by kernel_rfl) (by kernel_rfl) noEq
theorem ty33 : TyOK Try.prog 33 { d := .ptr 49, size := 1, zero := some .nilp, bytes := 8, eqs := none } := tyMk (by kernel_rfl) (by kernel_rfl) noEq
theorem ty34 : TyOK Try.prog 34 { d := .struct [], size := 0, zero := some (.agg []), bytes := 0, eqs := some [] } := tyMk (by kernel_rfl) (by kernel_rfl) (someEq (eqOK_of (by kernel_rfl) (by kernel_rfl)))
theorem ty35 : TyOK Try.prog 35 { d := .struct [], size := 0, zero := some (.agg []), bytes := 0, eqs := some [] } := tyMk (by kernel_rfl) (by kernel_rfl) (someEq (eqOK_of (by kernel_rfl) (by kernel_rfl)))
theorem ty36 : TyOK Try.prog 36 { d := .struct [], size := 0, zero := some (.agg []), bytes := 0, eqs := some [] } := tyMk (by kernel_rfl) (by kernel_rfl) (someEq (eqOK_of (by kernel_rfl) (by kernel_rfl)))
theorem ty37 : TyOK Try.prog 37 { d := .int .u32, size := 1, zero := some (.int .u32 (.z 0)), bytes := 4, eqs := none } := tyMk (by kernel_rfl) (by kernel_rfl) noEq
theorem ty38 : TyOK Try.prog 38 { d := .struct [(36, 0), (37, 0)], size := 1, zero := some (.agg [(.int .u32 (.z 0))]), bytes := 4, eqs := none } := tyMk (by kernel_rfl) (by kernel_rfl) noEq
theorem ty39 : TyOK Try.prog 39 { d := .struct [(36, 0), (37, 0)], size := 1, zero := some (.agg [(.int .u32 (.z 0))]), bytes := 4, eqs := none } := tyMk (by kernel_rfl) (by kernel_rfl) noEq
theorem ty40 : TyOK Try.prog 40 { d := .struct [(21, 0), (37, 1)], size := 2, zero := some (.agg [(.int .i32 (.z 0)), (.int .u32 (.z 0))]), bytes := 8, eqs := some [false, false] } := tyMk (by kernel_rfl) (by kernel_rfl) (someEq (eqOK_of (by kernel_rfl) (by kernel_rfl)))
theorem ty41 : TyOK Try.prog 41 { d := .struct [(21, 0), (37, 1)], size := 2, zero := some (.agg [(.int .i32 (.z 0)), (.int .u32 (.z 0))]), bytes := 8, eqs := some [false, false] } := tyMk (by kernel_rfl) (by kernel_rfl) (someEq (eqOK_of (by kernel_rfl) (by kernel_rfl)))
theorem ty42 : TyOK Try.prog 42 { d := .struct [(35, 0), (41, 0)], size := 2, zero := some (.agg [(.int .i32 (.z 0)), (.int .u32 (.z 0))]), bytes := 8, eqs := none } := tyMk (by kernel_rfl) (by kernel_rfl) noEq
theorem ty43 : TyOK Try.prog 43 { d := .struct [(35, 0), (41, 0)], size := 2, zero := some (.agg [(.int .i32 (.z 0)), (.int .u32 (.z 0))]), bytes := 8, eqs := none } := tyMk (by kernel_rfl) (by kernel_rfl) noEq
theorem ty44 : TyOK Try.prog 44 { d := .struct [(35, 0), (39, 0), (43, 1)], size := 3, zero := some (.agg [(.int .u32 (.z 0)), (.int .i32 (.z 0)), (.int .u32 (.z 0))]), bytes := 12, eqs := none } := tyMk (by kernel_rfl) (by kernel_rfl) noEq
theorem ty45 : TyOK Try.prog 45 { d := .struct [(35, 0), (39, 0), (43, 1)], size := 3, zero := some (.agg [(.int .u32 (.z 0)), (.int .i32 (.z 0)), (.int .u32 (.z 0))]), bytes := 12, eqs := none } := tyMk (by kernel_rfl) (by kernel_rfl) noEq
theorem ty46 : TyOK Try.prog 46 { d := .arr 9 3, size := 9, zero := some (.agg [(.int .i64 (.z 0)), (.int .i64 (.z 0)), (.int .i64 (.z 0)), (.int .i64 (.z 0)), (.int .i64 (.z 0)), (.int .i64 (.z 0)), (.int .i64 (.z 0)), (.int .i64 (.z 0)), (.int .i64 (.z 0))]), bytes := 72, eqs := none } := tyMk (by kernel_rfl) (by kernel_rfl) noEq
theorem ty47 : TyOK Try.prog 47 { d := .arr 7 46, size := 63, zero := some (.agg [(.int .i64 (.z 0)), (.int .i64 (.z 0)), (.int .i64 (.z 0)), (.int .i64 (.z 0)), (.int .i64 (.z 0)), (.int .i64 (.z 0)), (.int .i64 (.z 0)), (.int .i64 (.z 0)), (.int .i64 (.z 0)), (.int .i64 (.z 0)), (.int .i64 (.z 0)), (.int .i64 (.z 0)), (.int .i64 (.z 0)), (.int .i64 (.z 0)), (.int .i64 (.z 0)), (.int .i64 (.z 0)), (.int .i64 (.z 0)), (.int .i64 (.z 0)), (.int .i64 (.z 0)), (.int .i64 (.z 0)), (.int .i64 (.z 0)), (.int .i64 (.z 0)), (.int .i64 (.z 0)), (.int .i64 (.z 0)), (.int .i64 (.z 0)), (.int .i64 (.z 0)), (.int .i64 (.z 0)), (.int .i64 (.z 0)), (.int .i64 (.z 0)), (.int .i64 (.z 0)), (.int .i64 (.z 0)), (.int .i64 (.z 0)), (.int .i64 (.z 0)), (.int .i64 (.z 0)), (.int .i64 (.z 0)), (.int .i64 (.z 0)), (.int .i64 (.z 0)), (.int .i64 (.z 0)), (.int .i64 (.z 0)), (.int .i64 (.z 0)), (.int .i64 (.z 0)), (.int .i64 (.z 0)), (.int .i64 (.z 0)), (.int .i64 (.z 0)), (.int .i64 (.z 0)), (.int .i64 (.z 0)), (.int .i64 (.z 0)), (.int .i64 (.z 0)), (.int .i64 (.z 0)), (.int .i64 (.z 0)), (.int .i64 (.z 0)), (.int .i64 (.z 0)), (.int .i64 (.z 0)), (.int .i64 (.z 0)), (.int .i64 (.z 0)), (.int .i64 (.z 0)), (.int .i64 (.z 0)), (.int .i64 (.z 0)), (.int .i64 (.z 0)), (.int .i64 (.z 0)), (.int .i64 (.z 0)), (.int .i64 (.z 0)), (.int .i64 (.z 0))]), bytes := 504, eqs := none } := tyMk (by kernel_rfl) (by kernel_rfl) noEq
theorem ty48 : TyOK Try.prog 48 { d := .struct [(45, 0), (47, 3)], size := 66, zero := some (.agg [(.int .u32 (.z 0)), (.int .i32 (.z 0)), (.int .u32 (.z 0)), (.int .i64 (.z 0)), (.int .i64 (.z 0)), (.int .i64 (.z 0)), (.int .i64 (.z 0)), (.int .i64 (.z 0)), (.int .i64 (.z 0)), (.int .i64 (.z 0)), (.int .i64 (.z 0)), (.int .i64 (.z 0)), (.int .i64 (.z 0)), (.int .i64 (.z 0)), (.int .i64 (.z 0)), (.int .i64 (.z 0)), (.int .i64 (.z 0)), (.int .i64 (.z 0)), (.int .i64 (.z 0)), (.int .i64 (.z 0)), (.int .i64 (.z 0)), (.int .i64 (.z 0)), (.int .i64 (.z 0)), (.int .i64 (.z 0)), (.int .i64 (.z 0)), (.int .i64 (.z 0)), (.int .i64 (.z 0)), (.int .i64 (.z 0)), (.int .i64 (.z 0)), (.int .i64 (.z 0)), (.int .i64 (.z 0)), (.int .i64 (.z 0)), (.int .i64 (.z 0)), (.int .i64 (.z 0)), (.int .i64 (.z 0)), (.int .i64 (.z 0)), (.int .i64 (.z 0)), (.int .i64 (.z 0)), (.int .i64 (.z 0)), (.int .i64 (.z 0)), (.int .i64 (.z 0)), (.int .i64 (.z 0)), (.int .i64 (.z 0)), (.int .i64 (.z 0)), (.int .i64 (.z 0)), (.int .i64 (.z 0)), (.int .i64 (.z 0)), (.int .i64 (.z 0)), (.int .i64 (.z 0)), (.int .i64 (.z 0)), (.int .i64 (.z 0)), (.int .i64 (.z 0)), (.int .i64 (.z 0)), (.int .i64 (.z 0)), (.int .i64 (.z 0)), (.int .i64 (.z 0)), (.int .i64 (.z 0)), (.int .i64 (.z 0)), (.int .i64 (.z 0)), (.int .i64 (.z 0)), (.int .i64 (.z 0)), (.int .i64 (.z 0)), (.int .i64 (.z 0)), (.int .i64 (.z 0)), (.int .i64 (.z 0)), (.int .i64 (.z 0))]), bytes := 520, eqs := none } := tyMk (by kernel_rfl) (by kernel_rfl) noEq
theorem ty49 : TyOK Try.prog 49 { d := .struct [(45, 0), (47, 3)], size := 66, zero := some (.agg [(.int .u32 (.z 0)), (.int .i32 (.z 0)), (.int .u32 (.z 0)), (.int .i64 (.z 0)), (.int .i64 (.z 0)), (.int .i64 (.z 0)), (.int .i64 (.z 0)), (.int .i64 (.z 0)), (.int .i64 (.z 0)), (.int .i64 (.z 0)), (.int .i64 (.z 0)), (.int .i64 (.z 0)), (.int .i64 (.z 0)), (.int .i64 (.z 0)), (.int .i64 (.z 0)), (.int .i64 (.z 0)), (.int .i64 (.z 0)), (.int .i64 (.z 0)), (.int .i64 (.z 0)), (.int .i64 (.z 0)), (.int .i64 (.z 0)), (.int .i64 (.z 0)), (.int .i64 (.z 0)), (.int .i64 (.z 0)), (.int .i64 (.z 0)), (.int .i64 (.z 0)), (.int .i64 (.z 0)), (.int .i64 (.z 0)), (.int .i64 (.z 0)), (.int .i64 (.z 0)), (.int .i64 (.z 0)), (.int .i64 (.z 0)), (.int .i64 (.z 0)), (.int .i64 (.z 0)), (.int .i64 (.z 0)), (.int .i64 (.z 0)), (.int .i64 (.z 0)), (.int .i64 (.z 0)), (.int .i64 (.z 0)), (.int .i64 (.z 0)), (.int .i64 (.z 0)), (.int .i64 (.z 0)), (.int .i64 (.z 0)), (.int .i64 (.z 0)), (.int .i64 (.z 0)), (.int .i64 (.z 0)), (.int .i64 (.z 0)), (.int .i64 (.z 0)), (.int .i64 (.z 0)), (.int .i64 (.z 0)), (.int .i64 (.z 0)), (.int .i64 (.z 0)), (.int .i64 (.z 0)), (.int .i64 (.z 0)), (.int .i64 (.z 0)), (.int .i64 (.z 0)), (.int .i64 (.z 0)), (.int .i64 (.z 0)), (.int .i64 (.z 0)), (.int .i64 (.z 0)), (.int .i64 (.z 0)), (.int .i64 (.z 0)), (.int .i64 (.z 0)), (.int .i64 (.z 0)), (.int .i64 (.z 0)), (.int .i64 (.z 0))]), bytes := 520, eqs := none } := tyMk (by kernel_rfl) (by kernel_rfl) noEq
theorem ty50 : TyOK Try.prog 50 { d := .int .u64, size := 1, zero := some (.int .u64 (.z 0)), bytes := 8, eqs := none } := tyMk (by kernel_rfl) (by kernel_rfl) noEq
theorem ty51 : TyOK Try.prog 51 { d := .func, size := 1, zero := some .nilFunc, bytes := 8, eqs := none } := tyMk (by kernel_rfl) (by kernel_rfl) noEq
theorem ty52 : TyOK Try.prog 52 { d := .func, size := 1, zero := some .nilFunc, bytes := 8, eqs := none } := tyMk (by kernel_rfl) (by kernel_rfl) noEq
theorem ty53 : TyOK Try.prog 53 { d := .func, size := 1, zero := some .nilFunc, bytes := 8, eqs := none } := tyMk (by kernel_rfl) (by kernel_rfl) noEq
theorem ty54 : TyOK Try.prog 54 { d := .ptr 45, size := 1, zero := some .nilp, bytes := 8, eqs := none } := tyMk (by kernel_rfl) (by kernel_rfl) noEq
theorem ty55 : TyOK Try.prog 55 { d := .ptr 39, size := 1, zero := some .nilp, bytes := 8, eqs := none } := tyMk (by kernel_rfl) (by kernel_rfl) noEq
theorem ty56 : TyOK Try.prog 56 { d := .func, size := 1, zero := some .nilFunc, bytes := 8, eqs := none } := tyMk (by kernel_rfl) (by kernel_rfl) noEq
theorem ty57 : TyOK Try.prog 57 { d := .ptr 37, size := 1, zero := some .nilp, bytes := 8, eqs := none } := tyMk (by kernel_rfl) (by kernel_rfl) noEq
theorem ty58 : TyOK Try.prog 58 { d := .func, size := 1, zero := some .nilFunc, bytes := 8, eqs := none } := tyMk (by kernel_rfl) (by kernel_rfl) noEq
theorem ty59 : TyOK Try.prog 59 { d := .ptr 43, size := 1, zero := some .nilp, bytes := 8, eqs := none } := tyMk (by kernel_rfl) (by kernel_rfl) noEq
theorem ty60 : TyOK Try.prog 60 { d := .func, size := 1, zero := some .nilFunc, bytes := 8, eqs := none } := tyMk (by kernel_rfl) (by kernel_rfl) noEq
theorem ty61 : TyOK Try.prog 61 { d := .func, size := 1, zero := some .nilFunc, bytes := 8, eqs := none } := tyMk (by kernel_rfl) (by kernel_rfl) noEq
theorem ty62 : TyOK Try.prog 62 { d := .ptr 41, size := 1, zero := some .nilp, bytes := 8, eqs := none } := tyMk (by kernel_rfl) (by kernel_rfl) noEq
theorem ty63 : TyOK Try.prog 63 { d := .func, size := 1, zero := some .nilFunc, bytes := 8, eqs := none } := tyMk (by kernel_rfl) (by kernel_rfl) noEq
theorem ty64 : TyOK Try.prog 64 { d := .ptr 21, size := 1, zero := some .nilp, bytes := 8, eqs := none } := tyMk (by kernel_rfl) (by kernel_rfl) noEq
theorem ty65 : TyOK Try.prog 65 { d := .func, size := 1, zero := some .nilFunc, bytes := 8, eqs := none } := tyMk (by kernel_rfl) (by kernel_rfl) noEq
theorem ty67 : TyOK Try.prog 67 { d := .func, size := 1, zero := some .nilFunc, bytes := 8, eqs := none } := tyMk (by kernel_rfl) (by kernel_rfl) noEq
theorem ty68 : TyOK Try.prog 68 { d := .func, size := 1, zero := some .nilFunc, bytes := 8, eqs := none } := tyMk (by kernel_rfl) (by kernel_rfl) noEq
theorem ty69 : TyOK Try.prog 69 { d := .int .u64, size := 1, zero := some (.int .u64 (.z 0)), bytes := 8, eqs := none } := tyMk (by kernel_rfl) (by kernel_rfl) noEq
theorem ty70 : TyOK Try.prog 70 { d := .func, size := 1, zero := some .nilFunc, bytes := 8, eqs := none } := tyMk (by kernel_rfl) (by kernel_rfl) noEq
theorem ty71 : TyOK Try.prog 71 { d := .func, size := 1, zero := some .nilFunc, bytes := 8, eqs := none } := tyMk (by kernel_rfl) (by kernel_rfl) noEq
theorem ty72 : TyOK Try.prog 72 { d := .func, size := 1, zero := some .nilFunc, bytes := 8, eqs := none } := tyMk (by kernel_rfl) (by kernel_rfl) noEq
theorem ty73 : TyOK Try.prog 73 { d := .func, size := 1, zero := some .nilFunc, bytes := 8, eqs := none } := tyMk (by kernel_rfl) (by kernel_rfl) noEq
theorem ty76 : TyOK Try.prog 76 { d := .arr 0 16, size := 0, zero := some (.agg []), bytes := 0, eqs := none } := tyMk (by kernel_rfl) (by kernel_rfl) noEq
theorem ty77 : TyOK Try.prog 77 { d := .struct [(76, 0)], size := 0, zero := some (.agg []), bytes := 0, eqs := none } := tyMk (by kernel_rfl) (by kernel_rfl) noEq
theorem ty78 : TyOK Try.prog 78 { d := .struct [(76, 0)], size := 0, zero := some (.agg []), bytes := 0, eqs := none } := tyMk (by kernel_rfl) (by kernel_rfl) noEq
theorem ty79 : TyOK Try.prog 79 { d := .func, size := 1, zero := some .nilFunc, bytes := 8, eqs := none } := tyMk (by kernel_rfl) (by kernel_rfl) noEq
theorem ty80 : TyOK Try.prog 80 { d := .int .u8, size := 1, zero := some (.int .u8 (.z 0)), bytes := 1, eqs := none } := tyMk (by kernel_rfl) (by kernel_rfl) noEq
theorem ty81 : TyOK Try.prog 81 { d := .int .u8, size := 1, zero := some (.int .u8 (.z 0)), bytes := 1, eqs := none } := tyMk (by kernel_rfl) (by kernel_rfl) noEq
theorem ty82 : TyOK Try.prog 82 { d := .func, size := 1, zero := some .nilFunc, bytes := 8, eqs := none } := tyMk (by kernel_rfl) (by kernel_rfl) noEq
theorem ty83 : TyOK Try.prog 83 { d := .ptr 5, size := 1, zero := some .nilp, bytes := 8, eqs := none } := tyMk (by kernel_rfl) (by kernel_rfl) noEq
theorem ty84 : TyOK Try.prog 84 { d := .int .i32, size := 1, zero := some (.int .i32 (.z 0)), bytes := 4, eqs := none } := tyMk (by kernel_rfl) (by kernel_rfl) noEq
theorem ty85 : TyOK Try.prog 85 { d := .int .i32, size := 1, zero := some (.int .i32 (.z 0)), bytes := 4, eqs := none } := tyMk (by kernel_rfl) (by kernel_rfl) noEq
theorem ty86 : TyOK Try.prog 86 { d := .struct [(12, 0), (12, 1), (37, 2), (80, 3), (5, 4), (5, 5), (81, 6), (82, 7), (83, 8), (84, 9), (85, 10)], size := 11, zero := some (.agg [(.int .u64 (.z 0)), (.int .u64 (.z 0)), (.int .u32 (.z 0)), (.int .u8 (.z 0)), (.int .u8 (.z 0)), (.int .u8 (.z 0)), (.int .u8 (.z 0)), .nilFunc, .nilp, (.int .i32 (.z 0)), (.int .i32 (.z 0))]), bytes := 48, eqs := none } := tyMk (by kernel_rfl) (by kernel_rfl) noEq
theorem ty87 : TyOK Try.prog 87 { d := .struct [(12, 0), (12, 1), (37, 2), (80, 3), (5, 4), (5, 5), (81, 6), (82, 7), (83, 8), (84, 9), (85, 10)], size := 11, zero := some (.agg [(.int .u64 (.z 0)), (.int .u64 (.z 0)), (.int .u32 (.z 0)), (.int .u8 (.z 0)), (.int .u8 (.z 0)), (.int .u8 (.z 0)), (.int .u8 (.z 0)), .nilFunc, .nilp, (.int .i32 (.z 0)), (.int .i32 (.z 0))]), bytes := 48, eqs := none } := tyMk (by kernel_rfl) (by kernel_rfl) noEq
theorem tysOK : ∀ t ty, find t tys = some ty → TyOK Try.prog t ty :=
  tyCons ty0 <| tyCons ty1 <| tyCons ty2 <| tyCons ty3 <| tyCons ty4 <| tyCons ty5 <| tyCons ty6 <| tyCons ty7 <| tyCons ty8 <| tyCons ty12 <| tyCons ty15 <| tyCons ty16 <| tyCons ty17 <| tyCons ty18 <| tyCons ty19 <| tyCons ty20 <| tyCons ty21 <| tyCons ty22 <| tyCons ty23 <| tyCons ty24 <| tyCons ty25 <| tyCons ty26 <| tyCons ty27 <| tyCons ty28 <| tyCons ty29 <| tyCons ty30 <| tyCons ty31 <| tyCons ty32 <| tyCons ty33 <| tyCons ty34 <| tyCons ty35 <| tyCons ty36 <| tyCons ty37 <| tyCons ty38 <| tyCons ty39 <| tyCons ty40 <| tyCons ty41 <| tyCons ty42 <| tyCons ty43 <| tyCons ty44 <| tyCons ty45 <| tyCons ty46 <| tyCons ty47 <| tyCons ty48 <| tyCons ty49 <| tyCons ty50 <| tyCons ty51 <| tyCons ty52 <| tyCons ty53 <| tyCons ty54 <| tyCons ty55 <| tyCons ty56 <| tyCons ty57 <| tyCons ty58 <| tyCons ty59 <| tyCons ty60 <| tyCons ty61 <| tyCons ty62 <| tyCons ty63 <| tyCons ty64 <| tyCons ty65 <| tyCons ty67 <| tyCons ty68 <| tyCons ty69 <| tyCons ty70 <| tyCons ty71 <| tyCons ty72 <| tyCons ty73 <| tyCons ty76 <| tyCons ty77 <| tyCons ty78 <| tyCons ty79 <| tyCons ty80 <| tyCons ty81 <| tyCons ty82 <| tyCons ty83 <| tyCons ty84 <| tyCons ty85 <| tyCons ty86 <| tyCons ty87 <| fun _ _ h => tyNil h
theorem fnsOK : ∀ f fn, find f fns = some fn → Try.prog.funcs[f]? = some fn ∧ (fn.name == "runtime.NumGoroutine") = false :=
  fnCons Try.func2 (by kernel_rfl) <| fnCons Try.func3 (by kernel_rfl) <| fnCons Try.func4 (by kernel_rfl) <| fnCons Try.func5 (by kernel_rfl) <| fnCons Try.func6 (by kernel_rfl) <| fnCons Try.func7 (by kernel_rfl) <| fnCons Try.func8 (by kernel_rfl) <| fnCons Try.func9 (by kernel_rfl) <| fnCons Try.func10 (by kernel_rfl) <| fnCons Try.func11 (by kernel_rfl) <| fnCons Try.func12 (by kernel_rfl) <| fnCons Try.func13 (by kernel_rfl) <| fnCons Try.func14 (by kernel_rfl) <| fnCons Try.func15 (by kernel_rfl) <| fnCons Try.func16 (by kernel_rfl) <| fnCons Try.func17 (by kernel_rfl) <| fnCons Try.func18 (by kernel_rfl) <| fnCons Try.func19 (by kernel_rfl) <| fnCons Try.func20 (by kernel_rfl) <| fnCons Try.func21 (by kernel_rfl) <| fnCons Try.func22 (by kernel_rfl) <| fnCons Try.func23 (by kernel_rfl) <| fnCons Try.func25 (by kernel_rfl) <| fnCons Try.func26 (by kernel_rfl) <| fnCons Try.func27 (by kernel_rfl) <| fnCons Try.func28 (by kernel_rfl) <| fnCons Try.func29 (by kernel_rfl) <| fnCons Try.func31 (by kernel_rfl) <| fnCons Try.func36 (by kernel_rfl) <| fnCons Try.func39 (by kernel_rfl) <| fun _ _ h => fnNil h
theorem mixedOK : Try.prog.follows .mixedOrders = true := by kernel_rfl

end Go.Proofs.Ytdhhkoghfggkfaa.X
