/-
  The seat's tables for the symbolic executor: its types and functions, each by a closed fact.
-/
import Derived.Test.YtglpelnaeipenaaProg
import Derived.Test.YtglpelnaeipenaaSxTy
namespace Go.Proofs.Ytglpelnaeipenaa.X
open Go Go.SX
set_option linter.unusedVariables false
def tys : List (Nat × Ty) := [
  (0, { d := .tup, size := 1, zero := some (.tup []), bytes := 0, eqs := none }),
  (1, { d := .func, size := 1, zero := some .nilFunc, bytes := 8, eqs := none }),
  (2, { d := .int .i64, size := 1, zero := some (.int .i64 (.z 0)), bytes := 8, eqs := none }),
  (3, { d := .int .i64, size := 1, zero := some (.int .i64 (.z 0)), bytes := 8, eqs := none }),
  (4, { d := .bool, size := 1, zero := some (.bool .f), bytes := 1, eqs := none }),
  (5, { d := .int .u8, size := 1, zero := some (.int .u8 (.z 0)), bytes := 1, eqs := none }),
  (6, { d := .int .u8, size := 1, zero := some (.int .u8 (.z 0)), bytes := 1, eqs := none }),
  (7, { d := .struct [(2, 0), (3, 1), (4, 2), (6, 3)], size := 4, zero := some (.agg [(.int .i64 (.z 0)), (.int .i64 (.z 0)), (.bool .f), (.int .u8 (.z 0))]), bytes := 24, eqs := some [false, false, true, false] }),
  (8, { d := .struct [(2, 0), (3, 1), (4, 2), (6, 3)], size := 4, zero := some (.agg [(.int .i64 (.z 0)), (.int .i64 (.z 0)), (.bool .f), (.int .u8 (.z 0))]), bytes := 24, eqs := some [false, false, true, false] }),
  (12, { d := .int .u64, size := 1, zero := some (.int .u64 (.z 0)), bytes := 8, eqs := none }),
  (15, { d := .ptr 129, size := 1, zero := some .nilp, bytes := 8, eqs := none }),
  (16, { d := .ptr 132, size := 1, zero := some .nilp, bytes := 8, eqs := none }),
  (17, { d := .ptr 140, size := 1, zero := some .nilp, bytes := 8, eqs := none }),
  (18, { d := .struct [(17, 0)], size := 1, zero := some (.agg [.nilp]), bytes := 8, eqs := none }),
  (19, { d := .struct [(17, 0)], size := 1, zero := some (.agg [.nilp]), bytes := 8, eqs := none }),
  (20, { d := .iface, size := 1, zero := some .nilIface, bytes := 16, eqs := none }),
  (21, { d := .int .i32, size := 1, zero := some (.int .i32 (.z 0)), bytes := 4, eqs := none }),
  (22, { d := .struct [(3, 0), (3, 1), (3, 2), (3, 3), (3, 4)], size := 5, zero := some (.agg [(.int .i64 (.z 0)), (.int .i64 (.z 0)), (.int .i64 (.z 0)), (.int .i64 (.z 0)), (.int .i64 (.z 0))]), bytes := 40, eqs := some [false, false, false, false, false] }),
  (23, { d := .struct [(3, 0), (3, 1), (3, 2), (3, 3), (3, 4)], size := 5, zero := some (.agg [(.int .i64 (.z 0)), (.int .i64 (.z 0)), (.int .i64 (.z 0)), (.int .i64 (.z 0)), (.int .i64 (.z 0))]), bytes := 40, eqs := some [false, false, false, false, false] }),
  (24, { d := .slice 3, size := 1, zero := some .nilRow, bytes := 24, eqs := none }),
  (25, { d := .int .i64, size := 1, zero := some (.int .i64 (.z 0)), bytes := 8, eqs := none }),
  (26, { d := .tup, size := 1, zero := none, bytes := 0, eqs := none }),
  (27, { d := .func, size := 1, zero := some .nilFunc, bytes := 8, eqs := none }),
  (28, { d := .func, size := 1, zero := some .nilFunc, bytes := 8, eqs := none }),
  (29, { d := .func, size := 1, zero := some .nilFunc, bytes := 8, eqs := none }),
  (30, { d := .func, size := 1, zero := some .nilFunc, bytes := 8, eqs := none }),
  (31, { d := .func, size := 1, zero := some .nilFunc, bytes := 8, eqs := none }),
  (32, { d := .func, size := 1, zero := some .nilFunc, bytes := 8, eqs := none }),
  (33, { d := .func, size := 1, zero := some .nilFunc, bytes := 8, eqs := none }),
  (34, { d := .slice 24, size := 1, zero := some .nilRow, bytes := 24, eqs := none }),
  (35, { d := .tup, size := 1, zero := some (.tup [(.int .i64 (.z 0)), .nilRow]), bytes := 0, eqs := none }),
  (36, { d := .func, size := 1, zero := some .nilFunc, bytes := 8, eqs := none }),
  (37, { d := .tup, size := 1, zero := none, bytes := 0, eqs := none }),
  (38, { d := .func, size := 1, zero := some .nilFunc, bytes := 8, eqs := none }),
  (39, { d := .int .u64, size := 1, zero := some (.int .u64 (.z 0)), bytes := 8, eqs := none }),
  (40, { d := .struct [(39, 0), (39, 1)], size := 2, zero := some (.agg [(.int .u64 (.z 0)), (.int .u64 (.z 0))]), bytes := 16, eqs := some [false, false] }),
  (41, { d := .struct [(39, 0), (39, 1)], size := 2, zero := some (.agg [(.int .u64 (.z 0)), (.int .u64 (.z 0))]), bytes := 16, eqs := some [false, false] }),
  (42, { d := .struct [(3, 0), (3, 1), (3, 2), (41, 3)], size := 5, zero := some (.agg [(.int .i64 (.z 0)), (.int .i64 (.z 0)), (.int .i64 (.z 0)), (.int .u64 (.z 0)), (.int .u64 (.z 0))]), bytes := 40, eqs := some [false, false, false, false, false] }),
  (43, { d := .struct [(3, 0), (3, 1), (3, 2), (41, 3)], size := 5, zero := some (.agg [(.int .i64 (.z 0)), (.int .i64 (.z 0)), (.int .i64 (.z 0)), (.int .u64 (.z 0)), (.int .u64 (.z 0))]), bytes := 40, eqs := some [false, false, false, false, false] }),
  (44, { d := .tup, size := 1, zero := none, bytes := 0, eqs := none }),
  (45, { d := .func, size := 1, zero := some .nilFunc, bytes := 8, eqs := none }),
  (46, { d := .func, size := 1, zero := some .nilFunc, bytes := 8, eqs := none }),
  (47, { d := .tup, size := 1, zero := some (.tup [(.int .i64 (.z 0)), (.int .i64 (.z 0))]), bytes := 0, eqs := none }),
  (48, { d := .func, size := 1, zero := some .nilFunc, bytes := 8, eqs := none }),
  (49, { d := .func, size := 1, zero := some .nilFunc, bytes := 8, eqs := none }),
  (50, { d := .func, size := 1, zero := some .nilFunc, bytes := 8, eqs := none }),
  (51, { d := .func, size := 1, zero := some .nilFunc, bytes := 8, eqs := none }),
  (52, { d := .func, size := 1, zero := some .nilFunc, bytes := 8, eqs := none }),
  (53, { d := .func, size := 1, zero := some .nilFunc, bytes := 8, eqs := none }),
  (54, { d := .func, size := 1, zero := some .nilFunc, bytes := 8, eqs := none }),
  (55, { d := .func, size := 1, zero := some .nilFunc, bytes := 8, eqs := none }),
  (56, { d := .iface, size := 1, zero := some .nilIface, bytes := 16, eqs := none }),
  (57, { d := .iface, size := 1, zero := some .nilIface, bytes := 16, eqs := none }),
  (58, { d := .func, size := 1, zero := some .nilFunc, bytes := 8, eqs := none }),
  (59, { d := .func, size := 1, zero := some .nilFunc, bytes := 8, eqs := none }),
  (60, { d := .func, size := 1, zero := some .nilFunc, bytes := 8, eqs := none }),
  (61, { d := .func, size := 1, zero := some .nilFunc, bytes := 8, eqs := none }),
  (62, { d := .struct [(3, 0), (3, 1), (41, 2), (3, 4), (3, 5)], size := 6, zero := some (.agg [(.int .i64 (.z 0)), (.int .i64 (.z 0)), (.int .u64 (.z 0)), (.int .u64 (.z 0)), (.int .i64 (.z 0)), (.int .i64 (.z 0))]), bytes := 48, eqs := some [false, false, false, false, false, false] }),
  (63, { d := .struct [(3, 0), (3, 1), (41, 2), (3, 4), (3, 5)], size := 6, zero := some (.agg [(.int .i64 (.z 0)), (.int .i64 (.z 0)), (.int .u64 (.z 0)), (.int .u64 (.z 0)), (.int .i64 (.z 0)), (.int .i64 (.z 0))]), bytes := 48, eqs := some [false, false, false, false, false, false] }),
  (64, { d := .func, size := 1, zero := some .nilFunc, bytes := 8, eqs := none }),
  (65, { d := .tup, size := 1, zero := some (.tup [(.int .i64 (.z 0)), (.int .i64 (.z 0)), (.int .i64 (.z 0)), (.int .i64 (.z 0))]), bytes := 0, eqs := none }),
  (66, { d := .func, size := 1, zero := some .nilFunc, bytes := 8, eqs := none }),
  (67, { d := .func, size := 1, zero := some .nilFunc, bytes := 8, eqs := none }),
  (68, { d := .tup, size := 1, zero := some (.tup [(.int .i64 (.z 0)), (.int .i64 (.z 0))]), bytes := 0, eqs := none }),
  (69, { d := .func, size := 1, zero := some .nilFunc, bytes := 8, eqs := none }),
  (70, { d := .func, size := 1, zero := some .nilFunc, bytes := 8, eqs := none }),
  (71, { d := .struct [(4, 0), (41, 1)], size := 3, zero := some (.agg [(.bool .f), (.int .u64 (.z 0)), (.int .u64 (.z 0))]), bytes := 24, eqs := some [true, false, false] }),
  (72, { d := .struct [(4, 0), (41, 1)], size := 3, zero := some (.agg [(.bool .f), (.int .u64 (.z 0)), (.int .u64 (.z 0))]), bytes := 24, eqs := some [true, false, false] }),
  (73, { d := .func, size := 1, zero := some .nilFunc, bytes := 8, eqs := none }),
  (74, { d := .func, size := 1, zero := some .nilFunc, bytes := 8, eqs := none }),
  (75, { d := .func, size := 1, zero := some .nilFunc, bytes := 8, eqs := none }),
  (76, { d := .struct [(23, 0)], size := 5, zero := some (.agg [(.int .i64 (.z 0)), (.int .i64 (.z 0)), (.int .i64 (.z 0)), (.int .i64 (.z 0)), (.int .i64 (.z 0))]), bytes := 40, eqs := some [false, false, false, false, false] }),
  (77, { d := .struct [(23, 0)], size := 5, zero := some (.agg [(.int .i64 (.z 0)), (.int .i64 (.z 0)), (.int .i64 (.z 0)), (.int .i64 (.z 0)), (.int .i64 (.z 0))]), bytes := 40, eqs := some [false, false, false, false, false] }),
  (78, { d := .struct [(23, 0)], size := 5, zero := some (.agg [(.int .i64 (.z 0)), (.int .i64 (.z 0)), (.int .i64 (.z 0)), (.int .i64 (.z 0)), (.int .i64 (.z 0))]), bytes := 40, eqs := some [false, false, false, false, false] }),
  (79, { d := .tup, size := 1, zero := none, bytes := 0, eqs := none }),
  (80, { d := .func, size := 1, zero := some .nilFunc, bytes := 8, eqs := none }),
  (81, { d := .func, size := 1, zero := some .nilFunc, bytes := 8, eqs := none }),
  (82, { d := .tup, size := 1, zero := some (.tup [(.int .u64 (.z 0)), (.int .u64 (.z 0))]), bytes := 0, eqs := none }),
  (83, { d := .func, size := 1, zero := some .nilFunc, bytes := 8, eqs := none }),
  (84, { d := .ptr 100, size := 1, zero := some .nilp, bytes := 8, eqs := none }),
  (85, { d := .struct [], size := 0, zero := some (.agg []), bytes := 0, eqs := some [] }),
  (86, { d := .struct [], size := 0, zero := some (.agg []), bytes := 0, eqs := some [] }),
  (87, { d := .struct [], size := 0, zero := some (.agg []), bytes := 0, eqs := some [] }),
  (88, { d := .int .u32, size := 1, zero := some (.int .u32 (.z 0)), bytes := 4, eqs := none }),
  (89, { d := .struct [(87, 0), (88, 0)], size := 1, zero := some (.agg [(.int .u32 (.z 0))]), bytes := 4, eqs := none }),
  (90, { d := .struct [(87, 0), (88, 0)], size := 1, zero := some (.agg [(.int .u32 (.z 0))]), bytes := 4, eqs := none }),
  (91, { d := .struct [(21, 0), (88, 1)], size := 2, zero := some (.agg [(.int .i32 (.z 0)), (.int .u32 (.z 0))]), bytes := 8, eqs := some [false, false] }),
  (92, { d := .struct [(21, 0), (88, 1)], size := 2, zero := some (.agg [(.int .i32 (.z 0)), (.int .u32 (.z 0))]), bytes := 8, eqs := some [false, false] }),
  (93, { d := .struct [(86, 0), (92, 0)], size := 2, zero := some (.agg [(.int .i32 (.z 0)), (.int .u32 (.z 0))]), bytes := 8, eqs := none }),
  (94, { d := .struct [(86, 0), (92, 0)], size := 2, zero := some (.agg [(.int .i32 (.z 0)), (.int .u32 (.z 0))]), bytes := 8, eqs := none }),
  (95, { d := .struct [(86, 0), (90, 0), (94, 1)], size := 3, zero := some (.agg [(.int .u32 (.z 0)), (.int .i32 (.z 0)), (.int .u32 (.z 0))]), bytes := 12, eqs := none }),
  (96, { d := .struct [(86, 0), (90, 0), (94, 1)], size := 3, zero := some (.agg [(.int .u32 (.z 0)), (.int .i32 (.z 0)), (.int .u32 (.z 0))]), bytes := 12, eqs := none }),
  (97, { d := .arr 9 3, size := 9, zero := some (.agg [(.int .i64 (.z 0)), (.int .i64 (.z 0)), (.int .i64 (.z 0)), (.int .i64 (.z 0)), (.int .i64 (.z 0)), (.int .i64 (.z 0)), (.int .i64 (.z 0)), (.int .i64 (.z 0)), (.int .i64 (.z 0))]), bytes := 72, eqs := some [false, false, false, false, false, false, false, false, false] }),
  (98, { d := .arr 7 97, size := 63, zero := some (.agg [(.int .i64 (.z 0)), (.int .i64 (.z 0)), (.int .i64 (.z 0)), (.int .i64 (.z 0)), (.int .i64 (.z 0)), (.int .i64 (.z 0)), (.int .i64 (.z 0)), (.int .i64 (.z 0)), (.int .i64 (.z 0)), (.int .i64 (.z 0)), (.int .i64 (.z 0)), (.int .i64 (.z 0)), (.int .i64 (.z 0)), (.int .i64 (.z 0)), (.int .i64 (.z 0)), (.int .i64 (.z 0)), (.int .i64 (.z 0)), (.int .i64 (.z 0)), (.int .i64 (.z 0)), (.int .i64 (.z 0)), (.int .i64 (.z 0)), (.int .i64 (.z 0)), (.int .i64 (.z 0)), (.int .i64 (.z 0)), (.int .i64 (.z 0)), (.int .i64 (.z 0)), (.int .i64 (.z 0)), (.int .i64 (.z 0)), (.int .i64 (.z 0)), (.int .i64 (.z 0)), (.int .i64 (.z 0)), (.int .i64 (.z 0)), (.int .i64 (.z 0)), (.int .i64 (.z 0)), (.int .i64 (.z 0)), (.int .i64 (.z 0)), (.int .i64 (.z 0)), (.int .i64 (.z 0)), (.int .i64 (.z 0)), (.int .i64 (.z 0)), (.int .i64 (.z 0)), (.int .i64 (.z 0)), (.int .i64 (.z 0)), (.int .i64 (.z 0)), (.int .i64 (.z 0)), (.int .i64 (.z 0)), (.int .i64 (.z 0)), (.int .i64 (.z 0)), (.int .i64 (.z 0)), (.int .i64 (.z 0)), (.int .i64 (.z 0)), (.int .i64 (.z 0)), (.int .i64 (.z 0)), (.int .i64 (.z 0)), (.int .i64 (.z 0)), (.int .i64 (.z 0)), (.int .i64 (.z 0)), (.int .i64 (.z 0)), (.int .i64 (.z 0)), (.int .i64 (.z 0)), (.int .i64 (.z 0)), (.int .i64 (.z 0)), (.int .i64 (.z 0))]), bytes := 504, eqs := some [false, false, false, false, false, false, false, false, false, false, false, false, false, false, false, false, false, false, false, false, false, false, false, false, false, false, false, false, false, false, false, false, false, false, false, false, false, false, false, false, false, false, false, false, false, false, false, false, false, false, false, false, false, false, false, false, false, false, false, false, false, false, false] }),
  (99, { d := .struct [(96, 0), (98, 3)], size := 66, zero := some (.agg [(.int .u32 (.z 0)), (.int .i32 (.z 0)), (.int .u32 (.z 0)), (.int .i64 (.z 0)), (.int .i64 (.z 0)), (.int .i64 (.z 0)), (.int .i64 (.z 0)), (.int .i64 (.z 0)), (.int .i64 (.z 0)), (.int .i64 (.z 0)), (.int .i64 (.z 0)), (.int .i64 (.z 0)), (.int .i64 (.z 0)), (.int .i64 (.z 0)), (.int .i64 (.z 0)), (.int .i64 (.z 0)), (.int .i64 (.z 0)), (.int .i64 (.z 0)), (.int .i64 (.z 0)), (.int .i64 (.z 0)), (.int .i64 (.z 0)), (.int .i64 (.z 0)), (.int .i64 (.z 0)), (.int .i64 (.z 0)), (.int .i64 (.z 0)), (.int .i64 (.z 0)), (.int .i64 (.z 0)), (.int .i64 (.z 0)), (.int .i64 (.z 0)), (.int .i64 (.z 0)), (.int .i64 (.z 0)), (.int .i64 (.z 0)), (.int .i64 (.z 0)), (.int .i64 (.z 0)), (.int .i64 (.z 0)), (.int .i64 (.z 0)), (.int .i64 (.z 0)), (.int .i64 (.z 0)), (.int .i64 (.z 0)), (.int .i64 (.z 0)), (.int .i64 (.z 0)), (.int .i64 (.z 0)), (.int .i64 (.z 0)), (.int .i64 (.z 0)), (.int .i64 (.z 0)), (.int .i64 (.z 0)), (.int .i64 (.z 0)), (.int .i64 (.z 0)), (.int .i64 (.z 0)), (.int .i64 (.z 0)), (.int .i64 (.z 0)), (.int .i64 (.z 0)), (.int .i64 (.z 0)), (.int .i64 (.z 0)), (.int .i64 (.z 0)), (.int .i64 (.z 0)), (.int .i64 (.z 0)), (.int .i64 (.z 0)), (.int .i64 (.z 0)), (.int .i64 (.z 0)), (.int .i64 (.z 0)), (.int .i64 (.z 0)), (.int .i64 (.z 0)), (.int .i64 (.z 0)), (.int .i64 (.z 0)), (.int .i64 (.z 0))]), bytes := 520, eqs := none }),
  (100, { d := .struct [(96, 0), (98, 3)], size := 66, zero := some (.agg [(.int .u32 (.z 0)), (.int .i32 (.z 0)), (.int .u32 (.z 0)), (.int .i64 (.z 0)), (.int .i64 (.z 0)), (.int .i64 (.z 0)), (.int .i64 (.z 0)), (.int .i64 (.z 0)), (.int .i64 (.z 0)), (.int .i64 (.z 0)), (.int .i64 (.z 0)), (.int .i64 (.z 0)), (.int .i64 (.z 0)), (.int .i64 (.z 0)), (.int .i64 (.z 0)), (.int .i64 (.z 0)), (.int .i64 (.z 0)), (.int .i64 (.z 0)), (.int .i64 (.z 0)), (.int .i64 (.z 0)), (.int .i64 (.z 0)), (.int .i64 (.z 0)), (.int .i64 (.z 0)), (.int .i64 (.z 0)), (.int .i64 (.z 0)), (.int .i64 (.z 0)), (.int .i64 (.z 0)), (.int .i64 (.z 0)), (.int .i64 (.z 0)), (.int .i64 (.z 0)), (.int .i64 (.z 0)), (.int .i64 (.z 0)), (.int .i64 (.z 0)), (.int .i64 (.z 0)), (.int .i64 (.z 0)), (.int .i64 (.z 0)), (.int .i64 (.z 0)), (.int .i64 (.z 0)), (.int .i64 (.z 0)), (.int .i64 (.z 0)), (.int .i64 (.z 0)), (.int .i64 (.z 0)), (.int .i64 (.z 0)), (.int .i64 (.z 0)), (.int .i64 (.z 0)), (.int .i64 (.z 0)), (.int .i64 (.z 0)), (.int .i64 (.z 0)), (.int .i64 (.z 0)), (.int .i64 (.z 0)), (.int .i64 (.z 0)), (.int .i64 (.z 0)), (.int .i64 (.z 0)), (.int .i64 (.z 0)), (.int .i64 (.z 0)), (.int .i64 (.z 0)), (.int .i64 (.z 0)), (.int .i64 (.z 0)), (.int .i64 (.z 0)), (.int .i64 (.z 0)), (.int .i64 (.z 0)), (.int .i64 (.z 0)), (.int .i64 (.z 0)), (.int .i64 (.z 0)), (.int .i64 (.z 0)), (.int .i64 (.z 0))]), bytes := 520, eqs := none }),
  (101, { d := .func, size := 1, zero := some .nilFunc, bytes := 8, eqs := none }),
  (102, { d := .slice 39, size := 1, zero := some .nilRow, bytes := 24, eqs := none }),
  (103, { d := .func, size := 1, zero := some .nilFunc, bytes := 8, eqs := none }),
  (104, { d := .func, size := 1, zero := some .nilFunc, bytes := 8, eqs := none }),
  (105, { d := .func, size := 1, zero := some .nilFunc, bytes := 8, eqs := none }),
  (106, { d := .int .u64, size := 1, zero := some (.int .u64 (.z 0)), bytes := 8, eqs := none }),
  (107, { d := .func, size := 1, zero := some .nilFunc, bytes := 8, eqs := none }),
  (108, { d := .func, size := 1, zero := some .nilFunc, bytes := 8, eqs := none }),
  (109, { d := .ptr 96, size := 1, zero := some .nilp, bytes := 8, eqs := none }),
  (110, { d := .ptr 90, size := 1, zero := some .nilp, bytes := 8, eqs := none }),
  (111, { d := .func, size := 1, zero := some .nilFunc, bytes := 8, eqs := none }),
  (112, { d := .ptr 88, size := 1, zero := some .nilp, bytes := 8, eqs := none }),
  (113, { d := .func, size := 1, zero := some .nilFunc, bytes := 8, eqs := none }),
  (114, { d := .ptr 94, size := 1, zero := some .nilp, bytes := 8, eqs := none }),
  (115, { d := .func, size := 1, zero := some .nilFunc, bytes := 8, eqs := none }),
  (116, { d := .func, size := 1, zero := some .nilFunc, bytes := 8, eqs := none }),
  (117, { d := .ptr 92, size := 1, zero := some .nilp, bytes := 8, eqs := none }),
  (118, { d := .func, size := 1, zero := some .nilFunc, bytes := 8, eqs := none }),
  (119, { d := .ptr 21, size := 1, zero := some .nilp, bytes := 8, eqs := none }),
  (120, { d := .func, size := 1, zero := some .nilFunc, bytes := 8, eqs := none }),
  (122, { d := .func, size := 1, zero := some .nilFunc, bytes := 8, eqs := none }),
  (123, { d := .func, size := 1, zero := some .nilFunc, bytes := 8, eqs := none }),
  (124, { d := .func, size := 1, zero := some .nilFunc, bytes := 8, eqs := none }),
  (125, { d := .func, size := 1, zero := some .nilFunc, bytes := 8, eqs := none }),
  (126, { d := .func, size := 1, zero := some .nilFunc, bytes := 8, eqs := none }),
  (127, { d := .func, size := 1, zero := some .nilFunc, bytes := 8, eqs := none }),
  (130, { d := .arr 0 16, size := 0, zero := some (.agg []), bytes := 0, eqs := none }),
  (131, { d := .struct [(130, 0)], size := 0, zero := some (.agg []), bytes := 0, eqs := none }),
  (132, { d := .struct [(130, 0)], size := 0, zero := some (.agg []), bytes := 0, eqs := none }),
  (133, { d := .int .u8, size := 1, zero := some (.int .u8 (.z 0)), bytes := 1, eqs := none }),
  (134, { d := .int .u8, size := 1, zero := some (.int .u8 (.z 0)), bytes := 1, eqs := none }),
  (135, { d := .func, size := 1, zero := some .nilFunc, bytes := 8, eqs := none }),
  (136, { d := .ptr 5, size := 1, zero := some .nilp, bytes := 8, eqs := none }),
  (137, { d := .int .i32, size := 1, zero := some (.int .i32 (.z 0)), bytes := 4, eqs := none }),
  (138, { d := .int .i32, size := 1, zero := some (.int .i32 (.z 0)), bytes := 4, eqs := none }),
  (139, { d := .struct [(12, 0), (12, 1), (88, 2), (133, 3), (5, 4), (5, 5), (134, 6), (135, 7), (136, 8), (137, 9), (138, 10)], size := 11, zero := some (.agg [(.int .u64 (.z 0)), (.int .u64 (.z 0)), (.int .u32 (.z 0)), (.int .u8 (.z 0)), (.int .u8 (.z 0)), (.int .u8 (.z 0)), (.int .u8 (.z 0)), .nilFunc, .nilp, (.int .i32 (.z 0)), (.int .i32 (.z 0))]), bytes := 48, eqs := none }),
  (140, { d := .struct [(12, 0), (12, 1), (88, 2), (133, 3), (5, 4), (5, 5), (134, 6), (135, 7), (136, 8), (137, 9), (138, 10)], size := 11, zero := some (.agg [(.int .u64 (.z 0)), (.int .u64 (.z 0)), (.int .u32 (.z 0)), (.int .u8 (.z 0)), (.int .u8 (.z 0)), (.int .u8 (.z 0)), (.int .u8 (.z 0)), .nilFunc, .nilp, (.int .i32 (.z 0)), (.int .i32 (.z 0))]), bytes := 48, eqs := none })]
noncomputable def fns : List (Nat × Func) := [(2, Try.f2), (3, Try.f3), (4, Try.f4), (5, Try.f5), (6, Try.f6), (7, Try.f7), (8, Try.f8), (9, Try.f9), (10, Try.f10), (11, Try.f11), (12, Try.f12), (13, Try.f13), (14, Try.f14), (15, Try.f15), (16, Try.f16), (17, Try.f17), (18, Try.f18), (19, Try.f19), (20, Try.f20), (21, Try.f21), (22, Try.f22), (23, Try.f23), (24, Try.f24), (25, Try.f25), (26, Try.f26), (27, Try.f27), (28, Try.f28), (29, Try.f29), (30, Try.f30), (31, Try.f31), (32, Try.f32), (33, Try.f33), (34, Try.f34), (35, Try.f35), (36, Try.f36), (37, Try.f37), (38, Try.f38), (39, Try.f39), (40, Try.f40), (41, Try.f41), (42, Try.f42), (43, Try.f43), (44, Try.f44), (45, Try.f45), (46, Try.f46), (47, Try.f47), (48, Try.f48), (49, Try.f49), (51, Try.f51), (52, Try.f52), (53, Try.f53), (54, Try.f54), (55, Try.f55), (57, Try.f57), (62, Try.f62), (65, Try.f65), (88, Try.f88), (89, Try.f89), (90, Try.f90), (91, Try.f91), (92, Try.f92), (93, Try.f93), (94, Try.f94), (95, Try.f95), (96, Try.f96), (97, Try.f97)]
theorem ty0 : TyOK Try.prog 0 { d := .tup, size := 1, zero := some (.tup []), bytes := 0, eqs := none } := tyMk (by kernel_rfl) (by kernel_rfl) noEq
theorem ty1 : TyOK Try.prog 1 { d := .func, size := 1, zero := some .nilFunc, bytes := 8, eqs := none } := tyMk (by kernel_rfl) (by kernel_rfl) noEq
theorem ty2 : TyOK Try.prog 2 { d := .int .i64, size := 1, zero := some (.int .i64 (.z 0)), bytes := 8, eqs := none } := tyMk (by kernel_rfl) (by kernel_rfl) noEq
theorem ty3 : TyOK Try.prog 3 { d := .int .i64, size := 1, zero := some (.int .i64 (.z 0)), bytes := 8, eqs := none } := tyMk (by kernel_rfl) (by kernel_rfl) noEq
theorem ty4 : TyOK Try.prog 4 { d := .bool, size := 1, zero := some (.bool .f), bytes := 1, eqs := none } := tyMk (by kernel_rfl) (by kernel_rfl) noEq
theorem ty5 : TyOK Try.prog 5 { d := .int .u8, size := 1, zero := some (.int .u8 (.z 0)), bytes := 1, eqs := none } := tyMk (by kernel_rfl) (by kernel_rfl) noEq
theorem ty6 : TyOK Try.prog 6 { d := .int .u8, size := 1, zero := some (.int .u8 (.z 0)), bytes := 1, eqs := none } := tyMk (by kernel_rfl) (by kernel_rfl) noEq
theorem ty7 : TyOK Try.prog 7 { d := .struct [(2, 0), (3, 1), (4, 2), (6, 3)], size := 4, zero := some (.agg [(.int .i64 (.z 0)), (.int .i64 (.z 0)), (.bool .f), (.int .u8 (.z 0))]), bytes := 24, eqs := some [false, false, true, false] } := tyMk (by kernel_rfl) (by kernel_rfl) (someEq (eqOK_of (by kernel_rfl) (by kernel_rfl)))
theorem ty8 : TyOK Try.prog 8 { d := .struct [(2, 0), (3, 1), (4, 2), (6, 3)], size := 4, zero := some (.agg [(.int .i64 (.z 0)), (.int .i64 (.z 0)), (.bool .f), (.int .u8 (.z 0))]), bytes := 24, eqs := some [false, false, true, false] } := tyMk (by kernel_rfl) (by kernel_rfl) (someEq (eqOK_of (by kernel_rfl) (by kernel_rfl)))
theorem ty12 : TyOK Try.prog 12 { d := .int .u64, size := 1, zero := some (.int .u64 (.z 0)), bytes := 8, eqs := none } := tyMk (by kernel_rfl) (by kernel_rfl) noEq
theorem ty15 : TyOK Try.prog 15 { d := .ptr 129, size := 1, zero := some .nilp, bytes := 8, eqs := none } := tyMk (by kernel_rfl) (by kernel_rfl) noEq
theorem ty16 : TyOK Try.prog 16 { d := .ptr 132, size := 1, zero := some .nilp, bytes := 8, eqs := none } := tyMk (by kernel_rfl) (by kernel_rfl) noEq
theorem ty17 : TyOK Try.prog 17 { d := .ptr 140, size := 1, zero := some .nilp, bytes := 8, eqs := none } := tyMk (by kernel_rfl) (by kernel_rfl) noEq
theorem ty18 : TyOK Try.prog 18 { d := .struct [(17, 0)], size := 1, zero := some (.agg [.nilp]), bytes := 8, eqs := none } := tyMk (by kernel_rfl) (by kernel_rfl) noEq
theorem ty19 : TyOK Try.prog 19 { d := .struct [(17, 0)], size := 1, zero := some (.agg [.nilp]), bytes := 8, eqs := none } := tyMk (by kernel_rfl) (by kernel_rfl) noEq
theorem ty20 : TyOK Try.prog 20 { d := .iface, size := 1, zero := some .nilIface, bytes := 16, eqs := none } := tyMk (by kernel_rfl) (by kernel_rfl) noEq
theorem ty21 : TyOK Try.prog 21 { d := .int .i32, size := 1, zero := some (.int .i32 (.z 0)), bytes := 4, eqs := none } := tyMk (by kernel_rfl) (by kernel_rfl) noEq
theorem ty22 : TyOK Try.prog 22 { d := .struct [(3, 0), (3, 1), (3, 2), (3, 3), (3, 4)], size := 5, zero := some (.agg [(.int .i64 (.z 0)), (.int .i64 (.z 0)), (.int .i64 (.z 0)), (.int .i64 (.z 0)), (.int .i64 (.z 0))]), bytes := 40, eqs := some [false, false, false, false, false] } := tyMk (by kernel_rfl) (by kernel_rfl) (someEq (eqOK_of (by kernel_rfl) (by kernel_rfl)))
theorem ty23 : TyOK Try.prog 23 { d := .struct [(3, 0), (3, 1), (3, 2), (3, 3), (3, 4)], size := 5, zero := some (.agg [(.int .i64 (.z 0)), (.int .i64 (.z 0)), (.int .i64 (.z 0)), (.int .i64 (.z 0)), (.int .i64 (.z 0))]), bytes := 40, eqs := some [false, false, false, false, false] } := tyMk (by kernel_rfl) (by kernel_rfl) (someEq (eqOK_of (by kernel_rfl) (by kernel_rfl)))
theorem ty24 : TyOK Try.prog 24 { d := .slice 3, size := 1, zero := some .nilRow, bytes := 24, eqs := none } := tyMk (by kernel_rfl) (by kernel_rfl) noEq
theorem ty25 : TyOK Try.prog 25 { d := .int .i64, size := 1, zero := some (.int .i64 (.z 0)), bytes := 8, eqs := none } := tyMk (by kernel_rfl) (by kernel_rfl) noEq
theorem ty26 : TyOK Try.prog 26 { d := .tup, size := 1, zero := none, bytes := 0, eqs := none } := tyMk (by kernel_rfl) (by kernel_rfl) noEq
theorem ty27 : TyOK Try.prog 27 { d := .func, size := 1, zero := some .nilFunc, bytes := 8, eqs := none } := tyMk (by kernel_rfl) (by kernel_rfl) noEq
theorem ty28 : TyOK Try.prog 28 { d := .func, size := 1, zero := some .nilFunc, bytes := 8, eqs := none } := tyMk (by kernel_rfl) (by kernel_rfl) noEq
theorem ty29 : TyOK Try.prog 29 { d := .func, size := 1, zero := some .nilFunc, bytes := 8, eqs := none } := tyMk (by kernel_rfl) (by kernel_rfl) noEq
theorem ty30 : TyOK Try.prog 30 { d := .func, size := 1, zero := some .nilFunc, bytes := 8, eqs := none } := tyMk (by kernel_rfl) (by kernel_rfl) noEq
theorem ty31 : TyOK Try.prog 31 { d := .func, size := 1, zero := some .nilFunc, bytes := 8, eqs := none } := tyMk (by kernel_rfl) (by kernel_rfl) noEq
theorem ty32 : TyOK Try.prog 32 { d := .func, size := 1, zero := some .nilFunc, bytes := 8, eqs := none } := tyMk (by kernel_rfl) (by kernel_rfl) noEq
theorem ty33 : TyOK Try.prog 33 { d := .func, size := 1, zero := some .nilFunc, bytes := 8, eqs := none } := tyMk (by kernel_rfl) (by kernel_rfl) noEq
theorem ty34 : TyOK Try.prog 34 { d := .slice 24, size := 1, zero := some .nilRow, bytes := 24, eqs := none } := tyMk (by kernel_rfl) (by kernel_rfl) noEq
theorem ty35 : TyOK Try.prog 35 { d := .tup, size := 1, zero := some (.tup [(.int .i64 (.z 0)), .nilRow]), bytes := 0, eqs := none } := tyMk (by kernel_rfl) (by kernel_rfl) noEq
theorem ty36 : TyOK Try.prog 36 { d := .func, size := 1, zero := some .nilFunc, bytes := 8, eqs := none } := tyMk (by kernel_rfl) (by kernel_rfl) noEq
theorem ty37 : TyOK Try.prog 37 { d := .tup, size := 1, zero := none, bytes := 0, eqs := none } := tyMk (by kernel_rfl) (by kernel_rfl) noEq
theorem ty38 : TyOK Try.prog 38 { d := .func, size := 1, zero := some .nilFunc, bytes := 8, eqs := none } := tyMk (by kernel_rfl) (by kernel_rfl) noEq
theorem ty39 : TyOK Try.prog 39 { d := .int .u64, size := 1, zero := some (.int .u64 (.z 0)), bytes := 8, eqs := none } := tyMk (by kernel_rfl) (by kernel_rfl) noEq
theorem ty40 : TyOK Try.prog 40 { d := .struct [(39, 0), (39, 1)], size := 2, zero := some (.agg [(.int .u64 (.z 0)), (.int .u64 (.z 0))]), bytes := 16, eqs := some [false, false] } := tyMk (by kernel_rfl) (by kernel_rfl) (someEq (eqOK_of (by kernel_rfl) (by kernel_rfl)))
theorem ty41 : TyOK Try.prog 41 { d := .struct [(39, 0), (39, 1)], size := 2, zero := some (.agg [(.int .u64 (.z 0)), (.int .u64 (.z 0))]), bytes := 16, eqs := some [false, false] } := tyMk (by kernel_rfl) (by kernel_rfl) (someEq (eqOK_of (by kernel_rfl) (by kernel_rfl)))
theorem ty42 : TyOK Try.prog 42 { d := .struct [(3, 0), (3, 1), (3, 2), (41, 3)], size := 5, zero := some (.agg [(.int .i64 (.z 0)), (.int .i64 (.z 0)), (.int .i64 (.z 0)), (.int .u64 (.z 0)), (.int .u64 (.z 0))]), bytes := 40, eqs := some [false, false, false, false, false] } := tyMk (by kernel_rfl) (by kernel_rfl) (someEq (eqOK_of (by kernel_rfl) (by kernel_rfl)))
theorem ty43 : TyOK Try.prog 43 { d := .struct [(3, 0), (3, 1), (3, 2), (41, 3)], size := 5, zero := some (.agg [(.int .i64 (.z 0)), (.int .i64 (.z 0)), (.int .i64 (.z 0)), (.int .u64 (.z 0)), (.int .u64 (.z 0))]), bytes := 40, eqs := some [false, false, false, false, false] } := tyMk (by kernel_rfl) (by kernel_rfl) (someEq (eqOK_of (by kernel_rfl) (by kernel_rfl)))
theorem ty44 : TyOK Try.prog 44 { d := .tup, size := 1, zero := none, bytes := 0, eqs := none } := tyMk (by kernel_rfl) (by kernel_rfl) noEq
theorem ty45 : TyOK Try.prog 45 { d := .func, size := 1, zero := some .nilFunc, bytes := 8, eqs := none } := tyMk (by kernel_rfl) (by kernel_rfl) noEq
theorem ty46 : TyOK Try.prog 46 { d := .func, size := 1, zero := some .nilFunc, bytes := 8, eqs := none } := tyMk (by kernel_rfl) (by kernel_rfl) noEq
theorem ty47 : TyOK Try.prog 47 { d := .tup, size := 1, zero := some (.tup [(.int .i64 (.z 0)), (.int .i64 (.z 0))]), bytes := 0, eqs := none } := tyMk (by kernel_rfl) (by kernel_rfl) noEq
theorem ty48 : TyOK Try.prog 48 { d := .func, size := 1, zero := some .nilFunc, bytes := 8, eqs := none } := tyMk (by kernel_rfl) (by kernel_rfl) noEq
theorem ty49 : TyOK Try.prog 49 { d := .func, size := 1, zero := some .nilFunc, bytes := 8, eqs := none } := tyMk (by kernel_rfl) (by kernel_rfl) noEq
theorem ty50 : TyOK Try.prog 50 { d := .func, size := 1, zero := some .nilFunc, bytes := 8, eqs := none } := tyMk (by kernel_rfl) (by kernel_rfl) noEq
theorem ty51 : TyOK Try.prog 51 { d := .func, size := 1, zero := some .nilFunc, bytes := 8, eqs := none } := tyMk (by kernel_rfl) (by kernel_rfl) noEq
theorem ty52 : TyOK Try.prog 52 { d := .func, size := 1, zero := some .nilFunc, bytes := 8, eqs := none } := tyMk (by kernel_rfl) (by kernel_rfl) noEq
theorem ty53 : TyOK Try.prog 53 { d := .func, size := 1, zero := some .nilFunc, bytes := 8, eqs := none } := tyMk (by kernel_rfl) (by kernel_rfl) noEq
theorem ty54 : TyOK Try.prog 54 { d := .func, size := 1, zero := some .nilFunc, bytes := 8, eqs := none } := tyMk (by kernel_rfl) (by kernel_rfl) noEq
theorem ty55 : TyOK Try.prog 55 { d := .func, size := 1, zero := some .nilFunc, bytes := 8, eqs := none } := tyMk (by kernel_rfl) (by kernel_rfl) noEq
theorem ty56 : TyOK Try.prog 56 { d := .iface, size := 1, zero := some .nilIface, bytes := 16, eqs := none } := tyMk (by kernel_rfl) (by kernel_rfl) noEq
theorem ty57 : TyOK Try.prog 57 { d := .iface, size := 1, zero := some .nilIface, bytes := 16, eqs := none } := tyMk (by kernel_rfl) (by kernel_rfl) noEq
theorem ty58 : TyOK Try.prog 58 { d := .func, size := 1, zero := some .nilFunc, bytes := 8, eqs := none } := tyMk (by kernel_rfl) (by kernel_rfl) noEq
theorem ty59 : TyOK Try.prog 59 { d := .func, size := 1, zero := some .nilFunc, bytes := 8, eqs := none } := tyMk (by kernel_rfl) (by kernel_rfl) noEq
theorem ty60 : TyOK Try.prog 60 { d := .func, size := 1, zero := some .nilFunc, bytes := 8, eqs := none } := tyMk (by kernel_rfl) (by kernel_rfl) noEq
theorem ty61 : TyOK Try.prog 61 { d := .func, size := 1, zero := some .nilFunc, bytes := 8, eqs := none } := tyMk (by kernel_rfl) (by kernel_rfl) noEq
theorem ty62 : TyOK Try.prog 62 { d := .struct [(3, 0), (3, 1), (41, 2), (3, 4), (3, 5)], size := 6, zero := some (.agg [(.int .i64 (.z 0)), (.int .i64 (.z 0)), (.int .u64 (.z 0)), (.int .u64 (.z 0)), (.int .i64 (.z 0)), (.int .i64 (.z 0))]), bytes := 48, eqs := some [false, false, false, false, false, false] } := tyMk (by kernel_rfl) (by kernel_rfl) (someEq (eqOK_of (by kernel_rfl) (by kernel_rfl)))
theorem ty63 : TyOK Try.prog 63 { d := .struct [(3, 0), (3, 1), (41, 2), (3, 4), (3, 5)], size := 6, zero := some (.agg [(.int .i64 (.z 0)), (.int .i64 (.z 0)), (.int .u64 (.z 0)), (.int .u64 (.z 0)), (.int .i64 (.z 0)), (.int .i64 (.z 0))]), bytes := 48, eqs := some [false, false, false, false, false, false] } := tyMk (by kernel_rfl) (by kernel_rfl) (someEq (eqOK_of (by kernel_rfl) (by kernel_rfl)))
theorem ty64 : TyOK Try.prog 64 { d := .func, size := 1, zero := some .nilFunc, bytes := 8, eqs := none } := tyMk (by kernel_rfl) (by kernel_rfl) noEq
theorem ty65 : TyOK Try.prog 65 { d := .tup, size := 1, zero := some (.tup [(.int .i64 (.z 0)), (.int .i64 (.z 0)), (.int .i64 (.z 0)), (.int .i64 (.z 0))]), bytes := 0, eqs := none } := tyMk (by kernel_rfl) (by kernel_rfl) noEq
theorem ty66 : TyOK Try.prog 66 { d := .func, size := 1, zero := some .nilFunc, bytes := 8, eqs := none } := tyMk (by kernel_rfl) (by kernel_rfl) noEq
theorem ty67 : TyOK Try.prog 67 { d := .func, size := 1, zero := some .nilFunc, bytes := 8, eqs := none } := tyMk (by kernel_rfl) (by kernel_rfl) noEq
theorem ty68 : TyOK Try.prog 68 { d := .tup, size := 1, zero := some (.tup [(.int .i64 (.z 0)), (.int .i64 (.z 0))]), bytes := 0, eqs := none } := tyMk (by kernel_rfl) (by kernel_rfl) noEq
theorem ty69 : TyOK Try.prog 69 { d := .func, size := 1, zero := some .nilFunc, bytes := 8, eqs := none } := tyMk (by kernel_rfl) (by kernel_rfl) noEq
theorem ty70 : TyOK Try.prog 70 { d := .func, size := 1, zero := some .nilFunc, bytes := 8, eqs := none } := tyMk (by kernel_rfl) (by kernel_rfl) noEq
theorem ty71 : TyOK Try.prog 71 { d := .struct [(4, 0), (41, 1)], size := 3, zero := some (.agg [(.bool .f), (.int .u64 (.z 0)), (.int .u64 (.z 0))]), bytes := 24, eqs := some [true, false, false] } := tyMk (by kernel_rfl) (by kernel_rfl) (someEq (eqOK_of (by kernel_rfl) (by kernel_rfl)))
theorem ty72 : TyOK Try.prog 72 { d := .struct [(4, 0), (41, 1)], size := 3, zero := some (.agg [(.bool .f), (.int .u64 (.z 0)), (.int .u64 (.z 0))]), bytes := 24, eqs := some [true, false, false] } := tyMk (by kernel_rfl) (by kernel_rfl) (someEq (eqOK_of (by kernel_rfl) (by kernel_rfl)))
theorem ty73 : TyOK Try.prog 73 { d := .func, size := 1, zero := some .nilFunc, bytes := 8, eqs := none } := tyMk (by kernel_rfl) (by kernel_rfl) noEq
theorem ty74 : TyOK Try.prog 74 { d := .func, size := 1, zero := some .nilFunc, bytes := 8, eqs := none } := tyMk (by kernel_rfl) (by kernel_rfl) noEq
theorem ty75 : TyOK Try.prog 75 { d := .func, size := 1, zero := some .nilFunc, bytes := 8, eqs := none } := tyMk (by kernel_rfl) (by kernel_rfl) noEq
theorem ty76 : TyOK Try.prog 76 { d := .struct [(23, 0)], size := 5, zero := some (.agg [(.int .i64 (.z 0)), (.int .i64 (.z 0)), (.int .i64 (.z 0)), (.int .i64 (.z 0)), (.int .i64 (.z 0))]), bytes := 40, eqs := some [false, false, false, false, false] } := tyMk (by kernel_rfl) (by kernel_rfl) (someEq (eqOK_of (by kernel_rfl) (by kernel_rfl)))
theorem ty77 : TyOK Try.prog 77 { d := .struct [(23, 0)], size := 5, zero := some (.agg [(.int .i64 (.z 0)), (.int .i64 (.z 0)), (.int .i64 (.z 0)), (.int .i64 (.z 0)), (.int .i64 (.z 0))]), bytes := 40, eqs := some [false, false, false, false, false] } := tyMk (by kernel_rfl) (by kernel_rfl) (someEq (eqOK_of (by kernel_rfl) (by kernel_rfl)))
theorem ty78 : TyOK Try.prog 78 { d := .struct [(23, 0)], size := 5, zero := some (.agg [(.int .i64 (.z 0)), (.int .i64 (.z 0)), (.int .i64 (.z 0)), (.int .i64 (.z 0)), (.int .i64 (.z 0))]), bytes := 40, eqs := some [false, false, false, false, false] } := tyMk (by kernel_rfl) (by kernel_rfl) (someEq (eqOK_of (by kernel_rfl) (by kernel_rfl)))
theorem ty79 : TyOK Try.prog 79 { d := .tup, size := 1, zero := none, bytes := 0, eqs := none } := tyMk (by kernel_rfl) (by kernel_rfl) noEq
theorem ty80 : TyOK Try.prog 80 { d := .func, size := 1, zero := some .nilFunc, bytes := 8, eqs := none } := tyMk (by kernel_rfl) (by kernel_rfl) noEq
theorem ty81 : TyOK Try.prog 81 { d := .func, size := 1, zero := some .nilFunc, bytes := 8, eqs := none } := tyMk (by kernel_rfl) (by kernel_rfl) noEq
theorem ty82 : TyOK Try.prog 82 { d := .tup, size := 1, zero := some (.tup [(.int .u64 (.z 0)), (.int .u64 (.z 0))]), bytes := 0, eqs := none } := tyMk (by kernel_rfl) (by kernel_rfl) noEq
theorem ty83 : TyOK Try.prog 83 { d := .func, size := 1, zero := some .nilFunc, bytes := 8, eqs := none } := tyMk (by kernel_rfl) (by kernel_rfl) noEq
theorem ty84 : TyOK Try.prog 84 { d := .ptr 100, size := 1, zero := some .nilp, bytes := 8, eqs := none } := tyMk (by kernel_rfl) (by kernel_rfl) noEq
theorem ty85 : TyOK Try.prog 85 { d := .struct [], size := 0, zero := some (.agg []), bytes := 0, eqs := some [] } := tyMk (by kernel_rfl) (by kernel_rfl) (someEq (eqOK_of (by kernel_rfl) (by kernel_rfl)))
theorem ty86 : TyOK Try.prog 86 { d := .struct [], size := 0, zero := some (.agg []), bytes := 0, eqs := some [] } := tyMk (by kernel_rfl) (by kernel_rfl) (someEq (eqOK_of (by kernel_rfl) (by kernel_rfl)))
theorem ty87 : TyOK Try.prog 87 { d := .struct [], size := 0, zero := some (.agg []), bytes := 0, eqs := some [] } := tyMk (by kernel_rfl) (by kernel_rfl) (someEq (eqOK_of (by kernel_rfl) (by kernel_rfl)))
theorem ty88 : TyOK Try.prog 88 { d := .int .u32, size := 1, zero := some (.int .u32 (.z 0)), bytes := 4, eqs := none } := tyMk (by kernel_rfl) (by kernel_rfl) noEq
theorem ty89 : TyOK Try.prog 89 { d := .struct [(87, 0), (88, 0)], size := 1, zero := some (.agg [(.int .u32 (.z 0))]), bytes := 4, eqs := none } := tyMk (by kernel_rfl) (by kernel_rfl) noEq
theorem ty90 : TyOK Try.prog 90 { d := .struct [(87, 0), (88, 0)], size := 1, zero := some (.agg [(.int .u32 (.z 0))]), bytes := 4, eqs := none } := tyMk (by kernel_rfl) (by kernel_rfl) noEq
theorem ty91 : TyOK Try.prog 91 { d := .struct [(21, 0), (88, 1)], size := 2, zero := some (.agg [(.int .i32 (.z 0)), (.int .u32 (.z 0))]), bytes := 8, eqs := some [false, false] } := tyMk (by kernel_rfl) (by kernel_rfl) (someEq (eqOK_of (by kernel_rfl) (by kernel_rfl)))
theorem ty92 : TyOK Try.prog 92 { d := .struct [(21, 0), (88, 1)], size := 2, zero := some (.agg [(.int .i32 (.z 0)), (.int .u32 (.z 0))]), bytes := 8, eqs := some [false, false] } := tyMk (by kernel_rfl) (by kernel_rfl) (someEq (eqOK_of (by kernel_rfl) (by kernel_rfl)))
theorem ty93 : TyOK Try.prog 93 { d := .struct [(86, 0), (92, 0)], size := 2, zero := some (.agg [(.int .i32 (.z 0)), (.int .u32 (.z 0))]), bytes := 8, eqs := none } := tyMk (by kernel_rfl) (by kernel_rfl) noEq
theorem ty94 : TyOK Try.prog 94 { d := .struct [(86, 0), (92, 0)], size := 2, zero := some (.agg [(.int .i32 (.z 0)), (.int .u32 (.z 0))]), bytes := 8, eqs := none } := tyMk (by kernel_rfl) (by kernel_rfl) noEq
theorem ty95 : TyOK Try.prog 95 { d := .struct [(86, 0), (90, 0), (94, 1)], size := 3, zero := some (.agg [(.int .u32 (.z 0)), (.int .i32 (.z 0)), (.int .u32 (.z 0))]), bytes := 12, eqs := none } := tyMk (by kernel_rfl) (by kernel_rfl) noEq
theorem ty96 : TyOK Try.prog 96 { d := .struct [(86, 0), (90, 0), (94, 1)], size := 3, zero := some (.agg [(.int .u32 (.z 0)), (.int .i32 (.z 0)), (.int .u32 (.z 0))]), bytes := 12, eqs := none } := tyMk (by kernel_rfl) (by kernel_rfl) noEq
theorem ty97 : TyOK Try.prog 97 { d := .arr 9 3, size := 9, zero := some (.agg [(.int .i64 (.z 0)), (.int .i64 (.z 0)), (.int .i64 (.z 0)), (.int .i64 (.z 0)), (.int .i64 (.z 0)), (.int .i64 (.z 0)), (.int .i64 (.z 0)), (.int .i64 (.z 0)), (.int .i64 (.z 0))]), bytes := 72, eqs := some [false, false, false, false, false, false, false, false, false] } := tyMk (by kernel_rfl) (by kernel_rfl) (someEq (eqOK_of (by kernel_rfl) (by kernel_rfl)))
theorem ty98 : TyOK Try.prog 98 { d := .arr 7 97, size := 63, zero := some (.agg [(.int .i64 (.z 0)), (.int .i64 (.z 0)), (.int .i64 (.z 0)), (.int .i64 (.z 0)), (.int .i64 (.z 0)), (.int .i64 (.z 0)), (.int .i64 (.z 0)), (.int .i64 (.z 0)), (.int .i64 (.z 0)), (.int .i64 (.z 0)), (.int .i64 (.z 0)), (.int .i64 (.z 0)), (.int .i64 (.z 0)), (.int .i64 (.z 0)), (.int .i64 (.z 0)), (.int .i64 (.z 0)), (.int .i64 (.z 0)), (.int .i64 (.z 0)), (.int .i64 (.z 0)), (.int .i64 (.z 0)), (.int .i64 (.z 0)), (.int .i64 (.z 0)), (.int .i64 (.z 0)), (.int .i64 (.z 0)), (.int .i64 (.z 0)), (.int .i64 (.z 0)), (.int .i64 (.z 0)), (.int .i64 (.z 0)), (.int .i64 (.z 0)), (.int .i64 (.z 0)), (.int .i64 (.z 0)), (.int .i64 (.z 0)), (.int .i64 (.z 0)), (.int .i64 (.z 0)), (.int .i64 (.z 0)), (.int .i64 (.z 0)), (.int .i64 (.z 0)), (.int .i64 (.z 0)), (.int .i64 (.z 0)), (.int .i64 (.z 0)), (.int .i64 (.z 0)), (.int .i64 (.z 0)), (.int .i64 (.z 0)), (.int .i64 (.z 0)), (.int .i64 (.z 0)), (.int .i64 (.z 0)), (.int .i64 (.z 0)), (.int .i64 (.z 0)), (.int .i64 (.z 0)), (.int .i64 (.z 0)), (.int .i64 (.z 0)), (.int .i64 (.z 0)), (.int .i64 (.z 0)), (.int .i64 (.z 0)), (.int .i64 (.z 0)), (.int .i64 (.z 0)), (.int .i64 (.z 0)), (.int .i64 (.z 0)), (.int .i64 (.z 0)), (.int .i64 (.z 0)), (.int .i64 (.z 0)), (.int .i64 (.z 0)), (.int .i64 (.z 0))]), bytes := 504, eqs := some [false, false, false, false, false, false, false, false, false, false, false, false, false, false, false, false, false, false, false, false, false, false, false, false, false, false, false, false, false, false, false, false, false, false, false, false, false, false, false, false, false, false, false, false, false, false, false, false, false, false, false, false, false, false, false, false, false, false, false, false, false, false, false] } := tyMk (by kernel_rfl) (by kernel_rfl) (someEq (eqOK_of (by kernel_rfl) (by kernel_rfl)))
theorem ty99 : TyOK Try.prog 99 { d := .struct [(96, 0), (98, 3)], size := 66, zero := some (.agg [(.int .u32 (.z 0)), (.int .i32 (.z 0)), (.int .u32 (.z 0)), (.int .i64 (.z 0)), (.int .i64 (.z 0)), (.int .i64 (.z 0)), (.int .i64 (.z 0)), (.int .i64 (.z 0)), (.int .i64 (.z 0)), (.int .i64 (.z 0)), (.int .i64 (.z 0)), (.int .i64 (.z 0)), (.int .i64 (.z 0)), (.int .i64 (.z 0)), (.int .i64 (.z 0)), (.int .i64 (.z 0)), (.int .i64 (.z 0)), (.int .i64 (.z 0)), (.int .i64 (.z 0)), (.int .i64 (.z 0)), (.int .i64 (.z 0)), (.int .i64 (.z 0)), (.int .i64 (.z 0)), (.int .i64 (.z 0)), (.int .i64 (.z 0)), (.int .i64 (.z 0)), (.int .i64 (.z 0)), (.int .i64 (.z 0)), (.int .i64 (.z 0)), (.int .i64 (.z 0)), (.int .i64 (.z 0)), (.int .i64 (.z 0)), (.int .i64 (.z 0)), (.int .i64 (.z 0)), (.int .i64 (.z 0)), (.int .i64 (.z 0)), (.int .i64 (.z 0)), (.int .i64 (.z 0)), (.int .i64 (.z 0)), (.int .i64 (.z 0)), (.int .i64 (.z 0)), (.int .i64 (.z 0)), (.int .i64 (.z 0)), (.int .i64 (.z 0)), (.int .i64 (.z 0)), (.int .i64 (.z 0)), (.int .i64 (.z 0)), (.int .i64 (.z 0)), (.int .i64 (.z 0)), (.int .i64 (.z 0)), (.int .i64 (.z 0)), (.int .i64 (.z 0)), (.int .i64 (.z 0)), (.int .i64 (.z 0)), (.int .i64 (.z 0)), (.int .i64 (.z 0)), (.int .i64 (.z 0)), (.int .i64 (.z 0)), (.int .i64 (.z 0)), (.int .i64 (.z 0)), (.int .i64 (.z 0)), (.int .i64 (.z 0)), (.int .i64 (.z 0)), (.int .i64 (.z 0)), (.int .i64 (.z 0)), (.int .i64 (.z 0))]), bytes := 520, eqs := none } := tyMk (by kernel_rfl) (by kernel_rfl) noEq
theorem ty100 : TyOK Try.prog 100 { d := .struct [(96, 0), (98, 3)], size := 66, zero := some (.agg [(.int .u32 (.z 0)), (.int .i32 (.z 0)), (.int .u32 (.z 0)), (.int .i64 (.z 0)), (.int .i64 (.z 0)), (.int .i64 (.z 0)), (.int .i64 (.z 0)), (.int .i64 (.z 0)), (.int .i64 (.z 0)), (.int .i64 (.z 0)), (.int .i64 (.z 0)), (.int .i64 (.z 0)), (.int .i64 (.z 0)), (.int .i64 (.z 0)), (.int .i64 (.z 0)), (.int .i64 (.z 0)), (.int .i64 (.z 0)), (.int .i64 (.z 0)), (.int .i64 (.z 0)), (.int .i64 (.z 0)), (.int .i64 (.z 0)), (.int .i64 (.z 0)), (.int .i64 (.z 0)), (.int .i64 (.z 0)), (.int .i64 (.z 0)), (.int .i64 (.z 0)), (.int .i64 (.z 0)), (.int .i64 (.z 0)), (.int .i64 (.z 0)), (.int .i64 (.z 0)), (.int .i64 (.z 0)), (.int .i64 (.z 0)), (.int .i64 (.z 0)), (.int .i64 (.z 0)), (.int .i64 (.z 0)), (.int .i64 (.z 0)), (.int .i64 (.z 0)), (.int .i64 (.z 0)), (.int .i64 (.z 0)), (.int .i64 (.z 0)), (.int .i64 (.z 0)), (.int .i64 (.z 0)), (.int .i64 (.z 0)), (.int .i64 (.z 0)), (.int .i64 (.z 0)), (.int .i64 (.z 0)), (.int .i64 (.z 0)), (.int .i64 (.z 0)), (.int .i64 (.z 0)), (.int .i64 (.z 0)), (.int .i64 (.z 0)), (.int .i64 (.z 0)), (.int .i64 (.z 0)), (.int .i64 (.z 0)), (.int .i64 (.z 0)), (.int .i64 (.z 0)), (.int .i64 (.z 0)), (.int .i64 (.z 0)), (.int .i64 (.z 0)), (.int .i64 (.z 0)), (.int .i64 (.z 0)), (.int .i64 (.z 0)), (.int .i64 (.z 0)), (.int .i64 (.z 0)), (.int .i64 (.z 0)), (.int .i64 (.z 0))]), bytes := 520, eqs := none } := tyMk (by kernel_rfl) (by kernel_rfl) noEq
theorem ty101 : TyOK Try.prog 101 { d := .func, size := 1, zero := some .nilFunc, bytes := 8, eqs := none } := tyMk (by kernel_rfl) (by kernel_rfl) noEq
theorem ty102 : TyOK Try.prog 102 { d := .slice 39, size := 1, zero := some .nilRow, bytes := 24, eqs := none } := tyMk (by kernel_rfl) (by kernel_rfl) noEq
theorem ty103 : TyOK Try.prog 103 { d := .func, size := 1, zero := some .nilFunc, bytes := 8, eqs := none } := tyMk (by kernel_rfl) (by kernel_rfl) noEq
theorem ty104 : TyOK Try.prog 104 { d := .func, size := 1, zero := some .nilFunc, bytes := 8, eqs := none } := tyMk (by kernel_rfl) (by kernel_rfl) noEq
theorem ty105 : TyOK Try.prog 105 { d := .func, size := 1, zero := some .nilFunc, bytes := 8, eqs := none } := tyMk (by kernel_rfl) (by kernel_rfl) noEq
theorem ty106 : TyOK Try.prog 106 { d := .int .u64, size := 1, zero := some (.int .u64 (.z 0)), bytes := 8, eqs := none } := tyMk (by kernel_rfl) (by kernel_rfl) noEq
theorem ty107 : TyOK Try.prog 107 { d := .func, size := 1, zero := some .nilFunc, bytes := 8, eqs := none } := tyMk (by kernel_rfl) (by kernel_rfl) noEq
theorem ty108 : TyOK Try.prog 108 { d := .func, size := 1, zero := some .nilFunc, bytes := 8, eqs := none } := tyMk (by kernel_rfl) (by kernel_rfl) noEq
theorem ty109 : TyOK Try.prog 109 { d := .ptr 96, size := 1, zero := some .nilp, bytes := 8, eqs := none } := tyMk (by kernel_rfl) (by kernel_rfl) noEq
theorem ty110 : TyOK Try.prog 110 { d := .ptr 90, size := 1, zero := some .nilp, bytes := 8, eqs := none } := tyMk (by kernel_rfl) (by kernel_rfl) noEq
theorem ty111 : TyOK Try.prog 111 { d := .func, size := 1, zero := some .nilFunc, bytes := 8, eqs := none } := tyMk (by kernel_rfl) (by kernel_rfl) noEq
theorem ty112 : TyOK Try.prog 112 { d := .ptr 88, size := 1, zero := some .nilp, bytes := 8, eqs := none } := tyMk (by kernel_rfl) (by kernel_rfl) noEq
theorem ty113 : TyOK Try.prog 113 { d := .func, size := 1, zero := some .nilFunc, bytes := 8, eqs := none } := tyMk (by kernel_rfl) (by kernel_rfl) noEq
theorem ty114 : TyOK Try.prog 114 { d := .ptr 94, size := 1, zero := some .nilp, bytes := 8, eqs := none } := tyMk (by kernel_rfl) (by kernel_rfl) noEq
theorem ty115 : TyOK Try.prog 115 { d := .func, size := 1, zero := some .nilFunc, bytes := 8, eqs := none } := tyMk (by kernel_rfl) (by kernel_rfl) noEq
theorem ty116 : TyOK Try.prog 116 { d := .func, size := 1, zero := some .nilFunc, bytes := 8, eqs := none } := tyMk (by kernel_rfl) (by kernel_rfl) noEq
theorem ty117 : TyOK Try.prog 117 { d := .ptr 92, size := 1, zero := some .nilp, bytes := 8, eqs := none } := tyMk (by kernel_rfl) (by kernel_rfl) noEq
theorem ty118 : TyOK Try.prog 118 { d := .func, size := 1, zero := some .nilFunc, bytes := 8, eqs := none } := tyMk (by kernel_rfl) (by kernel_rfl) noEq
theorem ty119 : TyOK Try.prog 119 { d := .ptr 21, size := 1, zero := some .nilp, bytes := 8, eqs := none } := tyMk (by kernel_rfl) (by kernel_rfl) noEq
theorem ty120 : TyOK Try.prog 120 { d := .func, size := 1, zero := some .nilFunc, bytes := 8, eqs := none } := tyMk (by kernel_rfl) (by kernel_rfl) noEq
theorem ty122 : TyOK Try.prog 122 { d := .func, size := 1, zero := some .nilFunc, bytes := 8, eqs := none } := tyMk (by kernel_rfl) (by kernel_rfl) noEq
theorem ty123 : TyOK Try.prog 123 { d := .func, size := 1, zero := some .nilFunc, bytes := 8, eqs := none } := tyMk (by kernel_rfl) (by kernel_rfl) noEq
theorem ty124 : TyOK Try.prog 124 { d := .func, size := 1, zero := some .nilFunc, bytes := 8, eqs := none } := tyMk (by kernel_rfl) (by kernel_rfl) noEq
theorem ty125 : TyOK Try.prog 125 { d := .func, size := 1, zero := some .nilFunc, bytes := 8, eqs := none } := tyMk (by kernel_rfl) (by kernel_rfl) noEq
theorem ty126 : TyOK Try.prog 126 { d := .func, size := 1, zero := some .nilFunc, bytes := 8, eqs := none } := tyMk (by kernel_rfl) (by kernel_rfl) noEq
theorem ty127 : TyOK Try.prog 127 { d := .func, size := 1, zero := some .nilFunc, bytes := 8, eqs := none } := tyMk (by kernel_rfl) (by kernel_rfl) noEq
theorem ty130 : TyOK Try.prog 130 { d := .arr 0 16, size := 0, zero := some (.agg []), bytes := 0, eqs := none } := tyMk (by kernel_rfl) (by kernel_rfl) noEq
theorem ty131 : TyOK Try.prog 131 { d := .struct [(130, 0)], size := 0, zero := some (.agg []), bytes := 0, eqs := none } := tyMk (by kernel_rfl) (by kernel_rfl) noEq
theorem ty132 : TyOK Try.prog 132 { d := .struct [(130, 0)], size := 0, zero := some (.agg []), bytes := 0, eqs := none } := tyMk (by kernel_rfl) (by kernel_rfl) noEq
theorem ty133 : TyOK Try.prog 133 { d := .int .u8, size := 1, zero := some (.int .u8 (.z 0)), bytes := 1, eqs := none } := tyMk (by kernel_rfl) (by kernel_rfl) noEq
theorem ty134 : TyOK Try.prog 134 { d := .int .u8, size := 1, zero := some (.int .u8 (.z 0)), bytes := 1, eqs := none } := tyMk (by kernel_rfl) (by kernel_rfl) noEq
theorem ty135 : TyOK Try.prog 135 { d := .func, size := 1, zero := some .nilFunc, bytes := 8, eqs := none } := tyMk (by kernel_rfl) (by kernel_rfl) noEq
theorem ty136 : TyOK Try.prog 136 { d := .ptr 5, size := 1, zero := some .nilp, bytes := 8, eqs := none } := tyMk (by kernel_rfl) (by kernel_rfl) noEq
theorem ty137 : TyOK Try.prog 137 { d := .int .i32, size := 1, zero := some (.int .i32 (.z 0)), bytes := 4, eqs := none } := tyMk (by kernel_rfl) (by kernel_rfl) noEq
theorem ty138 : TyOK Try.prog 138 { d := .int .i32, size := 1, zero := some (.int .i32 (.z 0)), bytes := 4, eqs := none } := tyMk (by kernel_rfl) (by kernel_rfl) noEq
theorem ty139 : TyOK Try.prog 139 { d := .struct [(12, 0), (12, 1), (88, 2), (133, 3), (5, 4), (5, 5), (134, 6), (135, 7), (136, 8), (137, 9), (138, 10)], size := 11, zero := some (.agg [(.int .u64 (.z 0)), (.int .u64 (.z 0)), (.int .u32 (.z 0)), (.int .u8 (.z 0)), (.int .u8 (.z 0)), (.int .u8 (.z 0)), (.int .u8 (.z 0)), .nilFunc, .nilp, (.int .i32 (.z 0)), (.int .i32 (.z 0))]), bytes := 48, eqs := none } := tyMk (by kernel_rfl) (by kernel_rfl) noEq
theorem ty140 : TyOK Try.prog 140 { d := .struct [(12, 0), (12, 1), (88, 2), (133, 3), (5, 4), (5, 5), (134, 6), (135, 7), (136, 8), (137, 9), (138, 10)], size := 11, zero := some (.agg [(.int .u64 (.z 0)), (.int .u64 (.z 0)), (.int .u32 (.z 0)), (.int .u8 (.z 0)), (.int .u8 (.z 0)), (.int .u8 (.z 0)), (.int .u8 (.z 0)), .nilFunc, .nilp, (.int .i32 (.z 0)), (.int .i32 (.z 0))]), bytes := 48, eqs := none } := tyMk (by kernel_rfl) (by kernel_rfl) noEq
theorem tysOK : ∀ t ty, find t tys = some ty → TyOK Try.prog t ty :=
  tyCons ty0 <| tyCons ty1 <| tyCons ty2 <| tyCons ty3 <| tyCons ty4 <| tyCons ty5 <| tyCons ty6 <| tyCons ty7 <| tyCons ty8 <| tyCons ty12 <| tyCons ty15 <| tyCons ty16 <| tyCons ty17 <| tyCons ty18 <| tyCons ty19 <| tyCons ty20 <| tyCons ty21 <| tyCons ty22 <| tyCons ty23 <| tyCons ty24 <| tyCons ty25 <| tyCons ty26 <| tyCons ty27 <| tyCons ty28 <| tyCons ty29 <| tyCons ty30 <| tyCons ty31 <| tyCons ty32 <| tyCons ty33 <| tyCons ty34 <| tyCons ty35 <| tyCons ty36 <| tyCons ty37 <| tyCons ty38 <| tyCons ty39 <| tyCons ty40 <| tyCons ty41 <| tyCons ty42 <| tyCons ty43 <| tyCons ty44 <| tyCons ty45 <| tyCons ty46 <| tyCons ty47 <| tyCons ty48 <| tyCons ty49 <| tyCons ty50 <| tyCons ty51 <| tyCons ty52 <| tyCons ty53 <| tyCons ty54 <| tyCons ty55 <| tyCons ty56 <| tyCons ty57 <| tyCons ty58 <| tyCons ty59 <| tyCons ty60 <| tyCons ty61 <| tyCons ty62 <| tyCons ty63 <| tyCons ty64 <| tyCons ty65 <| tyCons ty66 <| tyCons ty67 <| tyCons ty68 <| tyCons ty69 <| tyCons ty70 <| tyCons ty71 <| tyCons ty72 <| tyCons ty73 <| tyCons ty74 <| tyCons ty75 <| tyCons ty76 <| tyCons ty77 <| tyCons ty78 <| tyCons ty79 <| tyCons ty80 <| tyCons ty81 <| tyCons ty82 <| tyCons ty83 <| tyCons ty84 <| tyCons ty85 <| tyCons ty86 <| tyCons ty87 <| tyCons ty88 <| tyCons ty89 <| tyCons ty90 <| tyCons ty91 <| tyCons ty92 <| tyCons ty93 <| tyCons ty94 <| tyCons ty95 <| tyCons ty96 <| tyCons ty97 <| tyCons ty98 <| tyCons ty99 <| tyCons ty100 <| tyCons ty101 <| tyCons ty102 <| tyCons ty103 <| tyCons ty104 <| tyCons ty105 <| tyCons ty106 <| tyCons ty107 <| tyCons ty108 <| tyCons ty109 <| tyCons ty110 <| tyCons ty111 <| tyCons ty112 <| tyCons ty113 <| tyCons ty114 <| tyCons ty115 <| tyCons ty116 <| tyCons ty117 <| tyCons ty118 <| tyCons ty119 <| tyCons ty120 <| tyCons ty122 <| tyCons ty123 <| tyCons ty124 <| tyCons ty125 <| tyCons ty126 <| tyCons ty127 <| tyCons ty130 <| tyCons ty131 <| tyCons ty132 <| tyCons ty133 <| tyCons ty134 <| tyCons ty135 <| tyCons ty136 <| tyCons ty137 <| tyCons ty138 <| tyCons ty139 <| tyCons ty140 <| fun _ _ h => tyNil h
theorem fnsOK : ∀ f fn, find f fns = some fn → Try.prog.funcs[f]? = some fn ∧ (fn.name == "runtime.NumGoroutine") = false :=
  fnCons Try.func2 (by kernel_rfl) <| fnCons Try.func3 (by kernel_rfl) <| fnCons Try.func4 (by kernel_rfl) <| fnCons Try.func5 (by kernel_rfl) <| fnCons Try.func6 (by kernel_rfl) <| fnCons Try.func7 (by kernel_rfl) <| fnCons Try.func8 (by kernel_rfl) <| fnCons Try.func9 (by kernel_rfl) <| fnCons Try.func10 (by kernel_rfl) <| fnCons Try.func11 (by kernel_rfl) <| fnCons Try.func12 (by kernel_rfl) <| fnCons Try.func13 (by kernel_rfl) <| fnCons Try.func14 (by kernel_rfl) <| fnCons Try.func15 (by kernel_rfl) <| fnCons Try.func16 (by kernel_rfl) <| fnCons Try.func17 (by kernel_rfl) <| fnCons Try.func18 (by kernel_rfl) <| fnCons Try.func19 (by kernel_rfl) <| fnCons Try.func20 (by kernel_rfl) <| fnCons Try.func21 (by kernel_rfl) <| fnCons Try.func22 (by kernel_rfl) <| fnCons Try.func23 (by kernel_rfl) <| fnCons Try.func24 (by kernel_rfl) <| fnCons Try.func25 (by kernel_rfl) <| fnCons Try.func26 (by kernel_rfl) <| fnCons Try.func27 (by kernel_rfl) <| fnCons Try.func28 (by kernel_rfl) <| fnCons Try.func29 (by kernel_rfl) <| fnCons Try.func30 (by kernel_rfl) <| fnCons Try.func31 (by kernel_rfl) <| fnCons Try.func32 (by kernel_rfl) <| fnCons Try.func33 (by kernel_rfl) <| fnCons Try.func34 (by kernel_rfl) <| fnCons Try.func35 (by kernel_rfl) <| fnCons Try.func36 (by kernel_rfl) <| fnCons Try.func37 (by kernel_rfl) <| fnCons Try.func38 (by kernel_rfl) <| fnCons Try.func39 (by kernel_rfl) <| fnCons Try.func40 (by kernel_rfl) <| fnCons Try.func41 (by kernel_rfl) <| fnCons Try.func42 (by kernel_rfl) <| fnCons Try.func43 (by kernel_rfl) <| fnCons Try.func44 (by kernel_rfl) <| fnCons Try.func45 (by kernel_rfl) <| fnCons Try.func46 (by kernel_rfl) <| fnCons Try.func47 (by kernel_rfl) <| fnCons Try.func48 (by kernel_rfl) <| fnCons Try.func49 (by kernel_rfl) <| fnCons Try.func51 (by kernel_rfl) <| fnCons Try.func52 (by kernel_rfl) <| fnCons Try.func53 (by kernel_rfl) <| fnCons Try.func54 (by kernel_rfl) <| fnCons Try.func55 (by kernel_rfl) <| fnCons Try.func57 (by kernel_rfl) <| fnCons Try.func62 (by kernel_rfl) <| fnCons Try.func65 (by kernel_rfl) <| fnCons Try.func88 (by kernel_rfl) <| fnCons Try.func89 (by kernel_rfl) <| fnCons Try.func90 (by kernel_rfl) <| fnCons Try.func91 (by kernel_rfl) <| fnCons Try.func92 (by kernel_rfl) <| fnCons Try.func93 (by kernel_rfl) <| fnCons Try.func94 (by kernel_rfl) <| fnCons Try.func95 (by kernel_rfl) <| fnCons Try.func96 (by kernel_rfl) <| fnCons Try.func97 (by kernel_rfl) <| fun _ _ h => fnNil h
def mets : List (Nat × String × Nat) := [(77, "datum/base.ranges", 88), (77, "datum/base.reach", 89), (77, "datum/base.scale", 90), (77, "datum/base.steps", 91), (78, "datum/base.ranges", 92), (78, "datum/base.reach", 93), (78, "datum/base.scale", 94), (78, "datum/base.steps", 95)]
theorem met0 : MetOK Try.prog 77 "datum/base.ranges" 88 := metMk (d := .struct [(23, 0)]) (by kernel_rfl) (by kernel_rfl) rfl
theorem met1 : MetOK Try.prog 77 "datum/base.reach" 89 := metMk (d := .struct [(23, 0)]) (by kernel_rfl) (by kernel_rfl) rfl
theorem met2 : MetOK Try.prog 77 "datum/base.scale" 90 := metMk (d := .struct [(23, 0)]) (by kernel_rfl) (by kernel_rfl) rfl
theorem met3 : MetOK Try.prog 77 "datum/base.steps" 91 := metMk (d := .struct [(23, 0)]) (by kernel_rfl) (by kernel_rfl) rfl
theorem met4 : MetOK Try.prog 78 "datum/base.ranges" 92 := metMk (d := .struct [(23, 0)]) (by kernel_rfl) (by kernel_rfl) rfl
theorem met5 : MetOK Try.prog 78 "datum/base.reach" 93 := metMk (d := .struct [(23, 0)]) (by kernel_rfl) (by kernel_rfl) rfl
theorem met6 : MetOK Try.prog 78 "datum/base.scale" 94 := metMk (d := .struct [(23, 0)]) (by kernel_rfl) (by kernel_rfl) rfl
theorem met7 : MetOK Try.prog 78 "datum/base.steps" 95 := metMk (d := .struct [(23, 0)]) (by kernel_rfl) (by kernel_rfl) rfl
theorem metsOK : ∀ t m f, findM t m mets = some f → MetOK Try.prog t m f :=
  metCons met0 <| metCons met1 <| metCons met2 <| metCons met3 <| metCons met4 <| metCons met5 <| metCons met6 <| metCons met7 <| fun _ _ _ h => metNil h
theorem mixedOK : Try.prog.follows .mixedOrders = true := by kernel_rfl

/-- an int; a word of 64 bits; a number of 128 -/
def IsI (x : Int) : Prop := -9223372036854775808 ≤ x ∧ x ≤ 9223372036854775807
def IsU (x : Int) : Prop := 0 ≤ x ∧ x ≤ 18446744073709551615
def val (h l : Int) : Int := h * 18446744073709551616 + l
end Go.Proofs.Ytglpelnaeipenaa.X
