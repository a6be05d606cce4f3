/-
  The seat's tables for the symbolic executor: its types and functions, each by a closed fact.
-/
import Derived.Test.YtglpelnaeipenaaGreatProg
import Derived.Test.YtglpelnaeipenaaGreatSxTy
namespace Go.Proofs.YtglpelnaeipenaaGreat.X
open Go Go.SX
set_option linter.unusedVariables false
def tys : List (Nat × Ty) := [
  (0, { d := .tup, size := 1, zero := some (.tup []), bytes := 0, eqs := none }),
  (1, { d := .func, size := 1, zero := some .nilFunc, bytes := 8, eqs := none }),
  (2, { d := .int .i64, size := 1, zero := some (.int .i64 (.z 0)), bytes := 8, eqs := none }),
  (3, { d := .int .i64, size := 1, zero := some (.int .i64 (.z 0)), bytes := 8, eqs := none }),
  (4, { d := .bool, size := 1, zero := some (.bool .f), bytes := 1, eqs := none }),
  (5, { d := .int .u8, size := 1, zero := some (.int .u8 (.z 0)), bytes := 1, eqs := none }),
  (6, { d := .int .u8, size := 1, zero := some (.int .u8 (.z 0)), bytes := 1, eqs := none }),
  (7, { d := .struct [(2, 0), (3, 1), (4, 2), (6, 3)], size := 4, zero := some (.agg [(.int .i64 (.z 0)), (.int .i64 (.z 0)), (.bool .f), (.int .u8 (.z 0))]), bytes := 24, eqs := some [false, false, true, false] }),
  (8, { d := .struct [(2, 0), (3, 1), (4, 2), (6, 3)], size := 4, zero := some (.agg [(.int .i64 (.z 0)), (.int .i64 (.z 0)), (.bool .f), (.int .u8 (.z 0))]), bytes := 24, eqs := some [false, false, true, false] }),
  (12, { d := .int .u64, size := 1, zero := some (.int .u64 (.z 0)), bytes := 8, eqs := none }),
  (15, { d := .ptr 163, size := 1, zero := some .nilp, bytes := 8, eqs := none }),
  (16, { d := .ptr 166, size := 1, zero := some .nilp, bytes := 8, eqs := none }),
  (17, { d := .ptr 174, size := 1, zero := some .nilp, bytes := 8, eqs := none }),
  (18, { d := .struct [(17, 0)], size := 1, zero := some (.agg [.nilp]), bytes := 8, eqs := none }),
  (19, { d := .struct [(17, 0)], size := 1, zero := some (.agg [.nilp]), bytes := 8, eqs := none }),
  (20, { d := .iface, size := 1, zero := some .nilIface, bytes := 16, eqs := none }),
  (21, { d := .int .i32, size := 1, zero := some (.int .i32 (.z 0)), bytes := 4, eqs := none }),
  (22, { d := .struct [(3, 0), (3, 1), (3, 2), (3, 3), (3, 4)], size := 5, zero := some (.agg [(.int .i64 (.z 0)), (.int .i64 (.z 0)), (.int .i64 (.z 0)), (.int .i64 (.z 0)), (.int .i64 (.z 0))]), bytes := 40, eqs := some [false, false, false, false, false] }),
  (23, { d := .struct [(3, 0), (3, 1), (3, 2), (3, 3), (3, 4)], size := 5, zero := some (.agg [(.int .i64 (.z 0)), (.int .i64 (.z 0)), (.int .i64 (.z 0)), (.int .i64 (.z 0)), (.int .i64 (.z 0))]), bytes := 40, eqs := some [false, false, false, false, false] }),
  (24, { d := .struct [(3, 0), (3, 1)], size := 2, zero := some (.agg [(.int .i64 (.z 0)), (.int .i64 (.z 0))]), bytes := 16, eqs := some [false, false] }),
  (25, { d := .struct [(3, 0), (3, 1)], size := 2, zero := some (.agg [(.int .i64 (.z 0)), (.int .i64 (.z 0))]), bytes := 16, eqs := some [false, false] }),
  (26, { d := .int .i64, size := 1, zero := some (.int .i64 (.z 0)), bytes := 8, eqs := none }),
  (27, { d := .tup, size := 1, zero := none, bytes := 0, eqs := none }),
  (28, { d := .func, size := 1, zero := some .nilFunc, bytes := 8, eqs := none }),
  (29, { d := .func, size := 1, zero := some .nilFunc, bytes := 8, eqs := none }),
  (30, { d := .func, size := 1, zero := some .nilFunc, bytes := 8, eqs := none }),
  (31, { d := .func, size := 1, zero := some .nilFunc, bytes := 8, eqs := none }),
  (32, { d := .func, size := 1, zero := some .nilFunc, bytes := 8, eqs := none }),
  (33, { d := .func, size := 1, zero := some .nilFunc, bytes := 8, eqs := none }),
  (34, { d := .func, size := 1, zero := some .nilFunc, bytes := 8, eqs := none }),
  (35, { d := .func, size := 1, zero := some .nilFunc, bytes := 8, eqs := none }),
  (36, { d := .func, size := 1, zero := some .nilFunc, bytes := 8, eqs := none }),
  (37, { d := .func, size := 1, zero := some .nilFunc, bytes := 8, eqs := none }),
  (38, { d := .func, size := 1, zero := some .nilFunc, bytes := 8, eqs := none }),
  (39, { d := .func, size := 1, zero := some .nilFunc, bytes := 8, eqs := none }),
  (40, { d := .int .u64, size := 1, zero := some (.int .u64 (.z 0)), bytes := 8, eqs := none }),
  (41, { d := .struct [(40, 0), (40, 1)], size := 2, zero := some (.agg [(.int .u64 (.z 0)), (.int .u64 (.z 0))]), bytes := 16, eqs := some [false, false] }),
  (42, { d := .struct [(40, 0), (40, 1)], size := 2, zero := some (.agg [(.int .u64 (.z 0)), (.int .u64 (.z 0))]), bytes := 16, eqs := some [false, false] }),
  (43, { d := .struct [(3, 0), (3, 1), (42, 2), (3, 4), (3, 5)], size := 6, zero := some (.agg [(.int .i64 (.z 0)), (.int .i64 (.z 0)), (.int .u64 (.z 0)), (.int .u64 (.z 0)), (.int .i64 (.z 0)), (.int .i64 (.z 0))]), bytes := 48, eqs := some [false, false, false, false, false, false] }),
  (44, { d := .struct [(3, 0), (3, 1), (42, 2), (3, 4), (3, 5)], size := 6, zero := some (.agg [(.int .i64 (.z 0)), (.int .i64 (.z 0)), (.int .u64 (.z 0)), (.int .u64 (.z 0)), (.int .i64 (.z 0)), (.int .i64 (.z 0))]), bytes := 48, eqs := some [false, false, false, false, false, false] }),
  (45, { d := .tup, size := 1, zero := none, bytes := 0, eqs := none }),
  (46, { d := .func, size := 1, zero := some .nilFunc, bytes := 8, eqs := none }),
  (47, { d := .slice 3, size := 1, zero := some .nilRow, bytes := 24, eqs := none }),
  (48, { d := .func, size := 1, zero := some .nilFunc, bytes := 8, eqs := none }),
  (49, { d := .tup, size := 1, zero := some (.tup [(.int .i64 (.z 0)), (.int .i64 (.z 0))]), bytes := 0, eqs := none }),
  (50, { d := .func, size := 1, zero := some .nilFunc, bytes := 8, eqs := none }),
  (51, { d := .func, size := 1, zero := some .nilFunc, bytes := 8, eqs := none }),
  (52, { d := .func, size := 1, zero := some .nilFunc, bytes := 8, eqs := none }),
  (53, { d := .struct [(26, 0)], size := 1, zero := some (.agg [(.int .i64 (.z 0))]), bytes := 8, eqs := some [false] }),
  (54, { d := .struct [(26, 0)], size := 1, zero := some (.agg [(.int .i64 (.z 0))]), bytes := 8, eqs := some [false] }),
  (55, { d := .tup, size := 1, zero := none, bytes := 0, eqs := none }),
  (56, { d := .func, size := 1, zero := some .nilFunc, bytes := 8, eqs := none }),
  (57, { d := .func, size := 1, zero := some .nilFunc, bytes := 8, eqs := none }),
  (58, { d := .iface, size := 1, zero := some .nilIface, bytes := 16, eqs := none }),
  (59, { d := .iface, size := 1, zero := some .nilIface, bytes := 16, eqs := none }),
  (60, { d := .func, size := 1, zero := some .nilFunc, bytes := 8, eqs := none }),
  (61, { d := .func, size := 1, zero := some .nilFunc, bytes := 8, eqs := none }),
  (62, { d := .tup, size := 1, zero := some (.tup [(.int .i64 (.z 0)), (.int .i64 (.z 0))]), bytes := 0, eqs := none }),
  (63, { d := .func, size := 1, zero := some .nilFunc, bytes := 8, eqs := none }),
  (64, { d := .func, size := 1, zero := some .nilFunc, bytes := 8, eqs := none }),
  (65, { d := .func, size := 1, zero := some .nilFunc, bytes := 8, eqs := none }),
  (66, { d := .func, size := 1, zero := some .nilFunc, bytes := 8, eqs := none }),
  (67, { d := .func, size := 1, zero := some .nilFunc, bytes := 8, eqs := none }),
  (68, { d := .func, size := 1, zero := some .nilFunc, bytes := 8, eqs := none }),
  (69, { d := .func, size := 1, zero := some .nilFunc, bytes := 8, eqs := none }),
  (70, { d := .func, size := 1, zero := some .nilFunc, bytes := 8, eqs := none }),
  (71, { d := .struct [(23, 0)], size := 5, zero := some (.agg [(.int .i64 (.z 0)), (.int .i64 (.z 0)), (.int .i64 (.z 0)), (.int .i64 (.z 0)), (.int .i64 (.z 0))]), bytes := 40, eqs := some [false, false, false, false, false] }),
  (72, { d := .struct [(23, 0)], size := 5, zero := some (.agg [(.int .i64 (.z 0)), (.int .i64 (.z 0)), (.int .i64 (.z 0)), (.int .i64 (.z 0)), (.int .i64 (.z 0))]), bytes := 40, eqs := some [false, false, false, false, false] }),
  (73, { d := .struct [(23, 0)], size := 5, zero := some (.agg [(.int .i64 (.z 0)), (.int .i64 (.z 0)), (.int .i64 (.z 0)), (.int .i64 (.z 0)), (.int .i64 (.z 0))]), bytes := 40, eqs := some [false, false, false, false, false] }),
  (74, { d := .ptr 90, size := 1, zero := some .nilp, bytes := 8, eqs := none }),
  (75, { d := .struct [], size := 0, zero := some (.agg []), bytes := 0, eqs := some [] }),
  (76, { d := .struct [], size := 0, zero := some (.agg []), bytes := 0, eqs := some [] }),
  (77, { d := .struct [], size := 0, zero := some (.agg []), bytes := 0, eqs := some [] }),
  (78, { d := .int .u32, size := 1, zero := some (.int .u32 (.z 0)), bytes := 4, eqs := none }),
  (79, { d := .struct [(77, 0), (78, 0)], size := 1, zero := some (.agg [(.int .u32 (.z 0))]), bytes := 4, eqs := none }),
  (80, { d := .struct [(77, 0), (78, 0)], size := 1, zero := some (.agg [(.int .u32 (.z 0))]), bytes := 4, eqs := none }),
  (81, { d := .struct [(21, 0), (78, 1)], size := 2, zero := some (.agg [(.int .i32 (.z 0)), (.int .u32 (.z 0))]), bytes := 8, eqs := some [false, false] }),
  (82, { d := .struct [(21, 0), (78, 1)], size := 2, zero := some (.agg [(.int .i32 (.z 0)), (.int .u32 (.z 0))]), bytes := 8, eqs := some [false, false] }),
  (83, { d := .struct [(76, 0), (82, 0)], size := 2, zero := some (.agg [(.int .i32 (.z 0)), (.int .u32 (.z 0))]), bytes := 8, eqs := none }),
  (84, { d := .struct [(76, 0), (82, 0)], size := 2, zero := some (.agg [(.int .i32 (.z 0)), (.int .u32 (.z 0))]), bytes := 8, eqs := none }),
  (85, { d := .struct [(76, 0), (80, 0), (84, 1)], size := 3, zero := some (.agg [(.int .u32 (.z 0)), (.int .i32 (.z 0)), (.int .u32 (.z 0))]), bytes := 12, eqs := none }),
  (86, { d := .struct [(76, 0), (80, 0), (84, 1)], size := 3, zero := some (.agg [(.int .u32 (.z 0)), (.int .i32 (.z 0)), (.int .u32 (.z 0))]), bytes := 12, eqs := none }),
  (87, { d := .arr 9 3, size := 9, zero := some (.agg [(.int .i64 (.z 0)), (.int .i64 (.z 0)), (.int .i64 (.z 0)), (.int .i64 (.z 0)), (.int .i64 (.z 0)), (.int .i64 (.z 0)), (.int .i64 (.z 0)), (.int .i64 (.z 0)), (.int .i64 (.z 0))]), bytes := 72, eqs := some [false, false, false, false, false, false, false, false, false] }),
  (88, { d := .arr 7 87, size := 63, zero := some (.agg [(.int .i64 (.z 0)), (.int .i64 (.z 0)), (.int .i64 (.z 0)), (.int .i64 (.z 0)), (.int .i64 (.z 0)), (.int .i64 (.z 0)), (.int .i64 (.z 0)), (.int .i64 (.z 0)), (.int .i64 (.z 0)), (.int .i64 (.z 0)), (.int .i64 (.z 0)), (.int .i64 (.z 0)), (.int .i64 (.z 0)), (.int .i64 (.z 0)), (.int .i64 (.z 0)), (.int .i64 (.z 0)), (.int .i64 (.z 0)), (.int .i64 (.z 0)), (.int .i64 (.z 0)), (.int .i64 (.z 0)), (.int .i64 (.z 0)), (.int .i64 (.z 0)), (.int .i64 (.z 0)), (.int .i64 (.z 0)), (.int .i64 (.z 0)), (.int .i64 (.z 0)), (.int .i64 (.z 0)), (.int .i64 (.z 0)), (.int .i64 (.z 0)), (.int .i64 (.z 0)), (.int .i64 (.z 0)), (.int .i64 (.z 0)), (.int .i64 (.z 0)), (.int .i64 (.z 0)), (.int .i64 (.z 0)), (.int .i64 (.z 0)), (.int .i64 (.z 0)), (.int .i64 (.z 0)), (.int .i64 (.z 0)), (.int .i64 (.z 0)), (.int .i64 (.z 0)), (.int .i64 (.z 0)), (.int .i64 (.z 0)), (.int .i64 (.z 0)), (.int .i64 (.z 0)), (.int .i64 (.z 0)), (.int .i64 (.z 0)), (.int .i64 (.z 0)), (.int .i64 (.z 0)), (.int .i64 (.z 0)), (.int .i64 (.z 0)), (.int .i64 (.z 0)), (.int .i64 (.z 0)), (.int .i64 (.z 0)), (.int .i64 (.z 0)), (.int .i64 (.z 0)), (.int .i64 (.z 0)), (.int .i64 (.z 0)), (.int .i64 (.z 0)), (.int .i64 (.z 0)), (.int .i64 (.z 0)), (.int .i64 (.z 0)), (.int .i64 (.z 0))]), bytes := 504, eqs := some [false, false, false, false, false, false, false, false, false, false, false, false, false, false, false, false, false, false, false, false, false, false, false, false, false, false, false, false, false, false, false, false, false, false, false, false, false, false, false, false, false, false, false, false, false, false, false, false, false, false, false, false, false, false, false, false, false, false, false, false, false, false, false] }),
  (89, { d := .struct [(86, 0), (88, 3)], size := 66, zero := some (.agg [(.int .u32 (.z 0)), (.int .i32 (.z 0)), (.int .u32 (.z 0)), (.int .i64 (.z 0)), (.int .i64 (.z 0)), (.int .i64 (.z 0)), (.int .i64 (.z 0)), (.int .i64 (.z 0)), (.int .i64 (.z 0)), (.int .i64 (.z 0)), (.int .i64 (.z 0)), (.int .i64 (.z 0)), (.int .i64 (.z 0)), (.int .i64 (.z 0)), (.int .i64 (.z 0)), (.int .i64 (.z 0)), (.int .i64 (.z 0)), (.int .i64 (.z 0)), (.int .i64 (.z 0)), (.int .i64 (.z 0)), (.int .i64 (.z 0)), (.int .i64 (.z 0)), (.int .i64 (.z 0)), (.int .i64 (.z 0)), (.int .i64 (.z 0)), (.int .i64 (.z 0)), (.int .i64 (.z 0)), (.int .i64 (.z 0)), (.int .i64 (.z 0)), (.int .i64 (.z 0)), (.int .i64 (.z 0)), (.int .i64 (.z 0)), (.int .i64 (.z 0)), (.int .i64 (.z 0)), (.int .i64 (.z 0)), (.int .i64 (.z 0)), (.int .i64 (.z 0)), (.int .i64 (.z 0)), (.int .i64 (.z 0)), (.int .i64 (.z 0)), (.int .i64 (.z 0)), (.int .i64 (.z 0)), (.int .i64 (.z 0)), (.int .i64 (.z 0)), (.int .i64 (.z 0)), (.int .i64 (.z 0)), (.int .i64 (.z 0)), (.int .i64 (.z 0)), (.int .i64 (.z 0)), (.int .i64 (.z 0)), (.int .i64 (.z 0)), (.int .i64 (.z 0)), (.int .i64 (.z 0)), (.int .i64 (.z 0)), (.int .i64 (.z 0)), (.int .i64 (.z 0)), (.int .i64 (.z 0)), (.int .i64 (.z 0)), (.int .i64 (.z 0)), (.int .i64 (.z 0)), (.int .i64 (.z 0)), (.int .i64 (.z 0)), (.int .i64 (.z 0)), (.int .i64 (.z 0)), (.int .i64 (.z 0)), (.int .i64 (.z 0))]), bytes := 520, eqs := none }),
  (90, { d := .struct [(86, 0), (88, 3)], size := 66, zero := some (.agg [(.int .u32 (.z 0)), (.int .i32 (.z 0)), (.int .u32 (.z 0)), (.int .i64 (.z 0)), (.int .i64 (.z 0)), (.int .i64 (.z 0)), (.int .i64 (.z 0)), (.int .i64 (.z 0)), (.int .i64 (.z 0)), (.int .i64 (.z 0)), (.int .i64 (.z 0)), (.int .i64 (.z 0)), (.int .i64 (.z 0)), (.int .i64 (.z 0)), (.int .i64 (.z 0)), (.int .i64 (.z 0)), (.int .i64 (.z 0)), (.int .i64 (.z 0)), (.int .i64 (.z 0)), (.int .i64 (.z 0)), (.int .i64 (.z 0)), (.int .i64 (.z 0)), (.int .i64 (.z 0)), (.int .i64 (.z 0)), (.int .i64 (.z 0)), (.int .i64 (.z 0)), (.int .i64 (.z 0)), (.int .i64 (.z 0)), (.int .i64 (.z 0)), (.int .i64 (.z 0)), (.int .i64 (.z 0)), (.int .i64 (.z 0)), (.int .i64 (.z 0)), (.int .i64 (.z 0)), (.int .i64 (.z 0)), (.int .i64 (.z 0)), (.int .i64 (.z 0)), (.int .i64 (.z 0)), (.int .i64 (.z 0)), (.int .i64 (.z 0)), (.int .i64 (.z 0)), (.int .i64 (.z 0)), (.int .i64 (.z 0)), (.int .i64 (.z 0)), (.int .i64 (.z 0)), (.int .i64 (.z 0)), (.int .i64 (.z 0)), (.int .i64 (.z 0)), (.int .i64 (.z 0)), (.int .i64 (.z 0)), (.int .i64 (.z 0)), (.int .i64 (.z 0)), (.int .i64 (.z 0)), (.int .i64 (.z 0)), (.int .i64 (.z 0)), (.int .i64 (.z 0)), (.int .i64 (.z 0)), (.int .i64 (.z 0)), (.int .i64 (.z 0)), (.int .i64 (.z 0)), (.int .i64 (.z 0)), (.int .i64 (.z 0)), (.int .i64 (.z 0)), (.int .i64 (.z 0)), (.int .i64 (.z 0)), (.int .i64 (.z 0))]), bytes := 520, eqs := none }),
  (91, { d := .func, size := 1, zero := some .nilFunc, bytes := 8, eqs := none }),
  (92, { d := .arr 3 91, size := 3, zero := some (.agg [.nilFunc, .nilFunc, .nilFunc]), bytes := 24, eqs := none }),
  (93, { d := .func, size := 1, zero := some .nilFunc, bytes := 8, eqs := none }),
  (94, { d := .func, size := 1, zero := some .nilFunc, bytes := 8, eqs := none }),
  (95, { d := .func, size := 1, zero := some .nilFunc, bytes := 8, eqs := none }),
  (96, { d := .struct [(42, 0), (42, 2), (42, 4), (4, 6)], size := 7, zero := some (.agg [(.int .u64 (.z 0)), (.int .u64 (.z 0)), (.int .u64 (.z 0)), (.int .u64 (.z 0)), (.int .u64 (.z 0)), (.int .u64 (.z 0)), (.bool .f)]), bytes := 56, eqs := some [false, false, false, false, false, false, true] }),
  (97, { d := .struct [(42, 0), (42, 2), (42, 4), (4, 6)], size := 7, zero := some (.agg [(.int .u64 (.z 0)), (.int .u64 (.z 0)), (.int .u64 (.z 0)), (.int .u64 (.z 0)), (.int .u64 (.z 0)), (.int .u64 (.z 0)), (.bool .f)]), bytes := 56, eqs := some [false, false, false, false, false, false, true] }),
  (98, { d := .tup, size := 1, zero := none, bytes := 0, eqs := none }),
  (99, { d := .func, size := 1, zero := some .nilFunc, bytes := 8, eqs := none }),
  (100, { d := .func, size := 1, zero := some .nilFunc, bytes := 8, eqs := none }),
  (101, { d := .tup, size := 1, zero := none, bytes := 0, eqs := none }),
  (102, { d := .func, size := 1, zero := some .nilFunc, bytes := 8, eqs := none }),
  (103, { d := .func, size := 1, zero := some .nilFunc, bytes := 8, eqs := none }),
  (104, { d := .func, size := 1, zero := some .nilFunc, bytes := 8, eqs := none }),
  (105, { d := .func, size := 1, zero := some .nilFunc, bytes := 8, eqs := none }),
  (106, { d := .func, size := 1, zero := some .nilFunc, bytes := 8, eqs := none }),
  (107, { d := .slice 40, size := 1, zero := some .nilRow, bytes := 24, eqs := none }),
  (108, { d := .func, size := 1, zero := some .nilFunc, bytes := 8, eqs := none }),
  (109, { d := .func, size := 1, zero := some .nilFunc, bytes := 8, eqs := none }),
  (110, { d := .tup, size := 1, zero := none, bytes := 0, eqs := none }),
  (111, { d := .func, size := 1, zero := some .nilFunc, bytes := 8, eqs := none }),
  (112, { d := .func, size := 1, zero := some .nilFunc, bytes := 8, eqs := none }),
  (113, { d := .struct [(4, 0), (42, 1)], size := 3, zero := some (.agg [(.bool .f), (.int .u64 (.z 0)), (.int .u64 (.z 0))]), bytes := 24, eqs := some [true, false, false] }),
  (114, { d := .struct [(4, 0), (42, 1)], size := 3, zero := some (.agg [(.bool .f), (.int .u64 (.z 0)), (.int .u64 (.z 0))]), bytes := 24, eqs := some [true, false, false] }),
  (115, { d := .func, size := 1, zero := some .nilFunc, bytes := 8, eqs := none }),
  (116, { d := .func, size := 1, zero := some .nilFunc, bytes := 8, eqs := none }),
  (117, { d := .struct [], size := 0, zero := some (.agg []), bytes := 0, eqs := some [] }),
  (118, { d := .tup, size := 1, zero := none, bytes := 0, eqs := none }),
  (119, { d := .tup, size := 1, zero := some (.tup [(.int .u64 (.z 0)), (.int .u64 (.z 0))]), bytes := 0, eqs := none }),
  (120, { d := .func, size := 1, zero := some .nilFunc, bytes := 8, eqs := none }),
  (121, { d := .func, size := 1, zero := some .nilFunc, bytes := 8, eqs := none }),
  (122, { d := .func, size := 1, zero := some .nilFunc, bytes := 8, eqs := none }),
  (123, { d := .func, size := 1, zero := some .nilFunc, bytes := 8, eqs := none }),
  (124, { d := .arr 2 40, size := 2, zero := some (.agg [(.int .u64 (.z 0)), (.int .u64 (.z 0))]), bytes := 16, eqs := some [false, false] }),
  (125, { d := .func, size := 1, zero := some .nilFunc, bytes := 8, eqs := none }),
  (126, { d := .arr 2 42, size := 4, zero := some (.agg [(.int .u64 (.z 0)), (.int .u64 (.z 0)), (.int .u64 (.z 0)), (.int .u64 (.z 0))]), bytes := 32, eqs := some [false, false, false, false] }),
  (127, { d := .func, size := 1, zero := some .nilFunc, bytes := 8, eqs := none }),
  (128, { d := .int .u64, size := 1, zero := some (.int .u64 (.z 0)), bytes := 8, eqs := none }),
  (129, { d := .func, size := 1, zero := some .nilFunc, bytes := 8, eqs := none }),
  (130, { d := .tup, size := 1, zero := none, bytes := 0, eqs := none }),
  (131, { d := .func, size := 1, zero := some .nilFunc, bytes := 8, eqs := none }),
  (132, { d := .func, size := 1, zero := some .nilFunc, bytes := 8, eqs := none }),
  (133, { d := .func, size := 1, zero := some .nilFunc, bytes := 8, eqs := none }),
  (134, { d := .ptr 86, size := 1, zero := some .nilp, bytes := 8, eqs := none }),
  (135, { d := .iface, size := 1, zero := some .nilIface, bytes := 16, eqs := none }),
  (136, { d := .iface, size := 1, zero := some .nilIface, bytes := 16, eqs := none }),
  (137, { d := .func, size := 1, zero := some .nilFunc, bytes := 8, eqs := none }),
  (138, { d := .func, size := 1, zero := some .nilFunc, bytes := 8, eqs := none }),
  (139, { d := .func, size := 1, zero := some .nilFunc, bytes := 8, eqs := none }),
  (140, { d := .func, size := 1, zero := some .nilFunc, bytes := 8, eqs := none }),
  (141, { d := .tup, size := 1, zero := some (.tup [(.int .i64 (.z 0)), (.bool .f)]), bytes := 0, eqs := none }),
  (142, { d := .func, size := 1, zero := some .nilFunc, bytes := 8, eqs := none }),
  (143, { d := .ptr 80, size := 1, zero := some .nilp, bytes := 8, eqs := none }),
  (144, { d := .func, size := 1, zero := some .nilFunc, bytes := 8, eqs := none }),
  (145, { d := .ptr 78, size := 1, zero := some .nilp, bytes := 8, eqs := none }),
  (146, { d := .func, size := 1, zero := some .nilFunc, bytes := 8, eqs := none }),
  (147, { d := .ptr 84, size := 1, zero := some .nilp, bytes := 8, eqs := none }),
  (148, { d := .func, size := 1, zero := some .nilFunc, bytes := 8, eqs := none }),
  (149, { d := .func, size := 1, zero := some .nilFunc, bytes := 8, eqs := none }),
  (150, { d := .ptr 82, size := 1, zero := some .nilp, bytes := 8, eqs := none }),
  (151, { d := .func, size := 1, zero := some .nilFunc, bytes := 8, eqs := none }),
  (152, { d := .ptr 21, size := 1, zero := some .nilp, bytes := 8, eqs := none }),
  (153, { d := .func, size := 1, zero := some .nilFunc, bytes := 8, eqs := none }),
  (155, { d := .func, size := 1, zero := some .nilFunc, bytes := 8, eqs := none }),
  (156, { d := .func, size := 1, zero := some .nilFunc, bytes := 8, eqs := none }),
  (157, { d := .func, size := 1, zero := some .nilFunc, bytes := 8, eqs := none }),
  (158, { d := .func, size := 1, zero := some .nilFunc, bytes := 8, eqs := none }),
  (159, { d := .func, size := 1, zero := some .nilFunc, bytes := 8, eqs := none }),
  (160, { d := .ptr 179, size := 1, zero := some .nilp, bytes := 8, eqs := none }),
  (161, { d := .func, size := 1, zero := some .nilFunc, bytes := 8, eqs := none }),
  (164, { d := .arr 0 16, size := 0, zero := some (.agg []), bytes := 0, eqs := none }),
  (165, { d := .struct [(164, 0)], size := 0, zero := some (.agg []), bytes := 0, eqs := none }),
  (166, { d := .struct [(164, 0)], size := 0, zero := some (.agg []), bytes := 0, eqs := none }),
  (167, { d := .int .u8, size := 1, zero := some (.int .u8 (.z 0)), bytes := 1, eqs := none }),
  (168, { d := .int .u8, size := 1, zero := some (.int .u8 (.z 0)), bytes := 1, eqs := none }),
  (169, { d := .func, size := 1, zero := some .nilFunc, bytes := 8, eqs := none }),
  (170, { d := .ptr 5, size := 1, zero := some .nilp, bytes := 8, eqs := none }),
  (171, { d := .int .i32, size := 1, zero := some (.int .i32 (.z 0)), bytes := 4, eqs := none }),
  (172, { d := .int .i32, size := 1, zero := some (.int .i32 (.z 0)), bytes := 4, eqs := none }),
  (173, { d := .struct [(12, 0), (12, 1), (78, 2), (167, 3), (5, 4), (5, 5), (168, 6), (169, 7), (170, 8), (171, 9), (172, 10)], size := 11, zero := some (.agg [(.int .u64 (.z 0)), (.int .u64 (.z 0)), (.int .u32 (.z 0)), (.int .u8 (.z 0)), (.int .u8 (.z 0)), (.int .u8 (.z 0)), (.int .u8 (.z 0)), .nilFunc, .nilp, (.int .i32 (.z 0)), (.int .i32 (.z 0))]), bytes := 48, eqs := none }),
  (174, { d := .struct [(12, 0), (12, 1), (78, 2), (167, 3), (5, 4), (5, 5), (168, 6), (169, 7), (170, 8), (171, 9), (172, 10)], size := 11, zero := some (.agg [(.int .u64 (.z 0)), (.int .u64 (.z 0)), (.int .u32 (.z 0)), (.int .u8 (.z 0)), (.int .u8 (.z 0)), (.int .u8 (.z 0)), (.int .u8 (.z 0)), .nilFunc, .nilp, (.int .i32 (.z 0)), (.int .i32 (.z 0))]), bytes := 48, eqs := none }),
  (175, { d := .func, size := 1, zero := some .nilFunc, bytes := 8, eqs := none }),
  (176, { d := .func, size := 1, zero := some .nilFunc, bytes := 8, eqs := none }),
  (177, { d := .func, size := 1, zero := some .nilFunc, bytes := 8, eqs := none })]
noncomputable def fns : List (Nat × Func) := [(2, Tryz.f2), (3, Tryz.f3), (4, Tryz.f4), (5, Tryz.f5), (6, Tryz.f6), (7, Tryz.f7), (8, Tryz.f8), (9, Tryz.f9), (10, Tryz.f10), (11, Tryz.f11), (12, Tryz.f12), (13, Tryz.f13), (14, Tryz.f14), (15, Tryz.f15), (16, Tryz.f16), (17, Tryz.f17), (18, Tryz.f18), (19, Tryz.f19), (20, Tryz.f20), (21, Tryz.f21), (22, Tryz.f22), (23, Tryz.f23), (24, Tryz.f24), (25, Tryz.f25), (26, Tryz.f26), (27, Tryz.f27), (28, Tryz.f28), (29, Tryz.f29), (30, Tryz.f30), (31, Tryz.f31), (32, Tryz.f32), (33, Tryz.f33), (34, Tryz.f34), (35, Tryz.f35), (36, Tryz.f36), (37, Tryz.f37), (38, Tryz.f38), (39, Tryz.f39), (40, Tryz.f40), (41, Tryz.f41), (42, Tryz.f42), (43, Tryz.f43), (44, Tryz.f44), (45, Tryz.f45), (46, Tryz.f46), (47, Tryz.f47), (48, Tryz.f48), (49, Tryz.f49), (50, Tryz.f50), (51, Tryz.f51), (52, Tryz.f52), (53, Tryz.f53), (54, Tryz.f54), (55, Tryz.f55), (56, Tryz.f56), (57, Tryz.f57), (58, Tryz.f58), (59, Tryz.f59), (60, Tryz.f60), (61, Tryz.f61), (62, Tryz.f62), (63, Tryz.f63), (64, Tryz.f64), (65, Tryz.f65), (66, Tryz.f66), (67, Tryz.f67), (68, Tryz.f68), (69, Tryz.f69), (70, Tryz.f70), (71, Tryz.f71), (73, Tryz.f73), (74, Tryz.f74), (75, Tryz.f75), (76, Tryz.f76), (77, Tryz.f77), (78, Tryz.f78), (79, Tryz.f79), (80, Tryz.f80), (81, Tryz.f81), (82, Tryz.f82), (83, Tryz.f83), (84, Tryz.f84), (86, Tryz.f86), (87, Tryz.f87), (88, Tryz.f88), (89, Tryz.f89), (90, Tryz.f90), (91, Tryz.f91), (92, Tryz.f92), (94, Tryz.f94), (95, Tryz.f95), (96, Tryz.f96), (97, Tryz.f97), (98, Tryz.f98), (100, Tryz.f100), (105, Tryz.f105), (108, Tryz.f108), (134, Tryz.f134), (138, Tryz.f138)]
theorem ty0 : TyOK Tryz.prog 0 { d := .tup, size := 1, zero := some (.tup []), bytes := 0, eqs := none } := tyMk (by kernel_rfl) (by kernel_rfl) noEq
theorem ty1 : TyOK Tryz.prog 1 { d := .func, size := 1, zero := some .nilFunc, bytes := 8, eqs := none } := tyMk (by kernel_rfl) (by kernel_rfl) noEq
theorem ty2 : TyOK Tryz.prog 2 { d := .int .i64, size := 1, zero := some (.int .i64 (.z 0)), bytes := 8, eqs := none } := tyMk (by kernel_rfl) (by kernel_rfl) noEq
theorem ty3 : TyOK Tryz.prog 3 { d := .int .i64, size := 1, zero := some (.int .i64 (.z 0)), bytes := 8, eqs := none } := tyMk (by kernel_rfl) (by kernel_rfl) noEq
theorem ty4 : TyOK Tryz.prog 4 { d := .bool, size := 1, zero := some (.bool .f), bytes := 1, eqs := none } := tyMk (by kernel_rfl) (by kernel_rfl) noEq
theorem ty5 : TyOK Tryz.prog 5 { d := .int .u8, size := 1, zero := some (.int .u8 (.z 0)), bytes := 1, eqs := none } := tyMk (by kernel_rfl) (by kernel_rfl) noEq
theorem ty6 : TyOK Tryz.prog 6 { d := .int .u8, size := 1, zero := some (.int .u8 (.z 0)), bytes := 1, eqs := none } := tyMk (by kernel_rfl) (by kernel_rfl) noEq
theorem ty7 : TyOK Tryz.prog 7 { d := .struct [(2, 0), (3, 1), (4, 2), (6, 3)], size := 4, zero := some (.agg [(.int .i64 (.z 0)), (.int .i64 (.z 0)), (.bool .f), (.int .u8 (.z 0))]), bytes := 24, eqs := some [false, false, true, false] } := tyMk (by kernel_rfl) (by kernel_rfl) (someEq (eqOK_of (by kernel_rfl) (by kernel_rfl)))
theorem ty8 : TyOK Tryz.prog 8 { d := .struct [(2, 0), (3, 1), (4, 2), (6, 3)], size := 4, zero := some (.agg [(.int .i64 (.z 0)), (.int .i64 (.z 0)), (.bool .f), (.int .u8 (.z 0))]), bytes := 24, eqs := some [false, false, true, false] } := tyMk (by kernel_rfl) (by kernel_rfl) (someEq (eqOK_of (by kernel_rfl) (by kernel_rfl)))
theorem ty12 : TyOK Tryz.prog 12 { d := .int .u64, size := 1, zero := some (.int .u64 (.z 0)), bytes := 8, eqs := none } := tyMk (by kernel_rfl) (by kernel_rfl) noEq
theorem ty15 : TyOK Tryz.prog 15 { d := .ptr 163, size := 1, zero := some .nilp, bytes := 8, eqs := none } := tyMk (by kernel_rfl) (by kernel_rfl) noEq
theorem ty16 : TyOK Tryz.prog 16 { d := .ptr 166, size := 1, zero := some .nilp, bytes := 8, eqs := none } := tyMk (by kernel_rfl) (by kernel_rfl) noEq
theorem ty17 : TyOK Tryz.prog 17 { d := .ptr 174, size := 1, zero := some .nilp, bytes := 8, eqs := none } := tyMk (by kernel_rfl) (by kernel_rfl) noEq
theorem ty18 : TyOK Tryz.prog 18 { d := .struct [(17, 0)], size := 1, zero := some (.agg [.nilp]), bytes := 8, eqs := none } := tyMk (by kernel_rfl) (by kernel_rfl) noEq
theorem ty19 : TyOK Tryz.prog 19 { d := .struct [(17, 0)], size := 1, zero := some (.agg [.nilp]), bytes := 8, eqs := none } := tyMk (by kernel_rfl) (by kernel_rfl) noEq
theorem ty20 : TyOK Tryz.prog 20 { d := .iface, size := 1, zero := some .nilIface, bytes := 16, eqs := none } := tyMk (by kernel_rfl) (by kernel_rfl) noEq
theorem ty21 : TyOK Tryz.prog 21 { d := .int .i32, size := 1, zero := some (.int .i32 (.z 0)), bytes := 4, eqs := none } := tyMk (by kernel_rfl) (by kernel_rfl) noEq
theorem ty22 : TyOK Tryz.prog 22 { d := .struct [(3, 0), (3, 1), (3, 2), (3, 3), (3, 4)], size := 5, zero := some (.agg [(.int .i64 (.z 0)), (.int .i64 (.z 0)), (.int .i64 (.z 0)), (.int .i64 (.z 0)), (.int .i64 (.z 0))]), bytes := 40, eqs := some [false, false, false, false, false] } := tyMk (by kernel_rfl) (by kernel_rfl) (someEq (eqOK_of (by kernel_rfl) (by kernel_rfl)))
theorem ty23 : TyOK Tryz.prog 23 { d := .struct [(3, 0), (3, 1), (3, 2), (3, 3), (3, 4)], size := 5, zero := some (.agg [(.int .i64 (.z 0)), (.int .i64 (.z 0)), (.int .i64 (.z 0)), (.int .i64 (.z 0)), (.int .i64 (.z 0))]), bytes := 40, eqs := some [false, false, false, false, false] } := tyMk (by kernel_rfl) (by kernel_rfl) (someEq (eqOK_of (by kernel_rfl) (by kernel_rfl)))
theorem ty24 : TyOK Tryz.prog 24 { d := .struct [(3, 0), (3, 1)], size := 2, zero := some (.agg [(.int .i64 (.z 0)), (.int .i64 (.z 0))]), bytes := 16, eqs := some [false, false] } := tyMk (by kernel_rfl) (by kernel_rfl) (someEq (eqOK_of (by kernel_rfl) (by kernel_rfl)))
theorem ty25 : TyOK Tryz.prog 25 { d := .struct [(3, 0), (3, 1)], size := 2, zero := some (.agg [(.int .i64 (.z 0)), (.int .i64 (.z 0))]), bytes := 16, eqs := some [false, false] } := tyMk (by kernel_rfl) (by kernel_rfl) (someEq (eqOK_of (by kernel_rfl) (by kernel_rfl)))
theorem ty26 : TyOK Tryz.prog 26 { d := .int .i64, size := 1, zero := some (.int .i64 (.z 0)), bytes := 8, eqs := none } := tyMk (by kernel_rfl) (by kernel_rfl) noEq
theorem ty27 : TyOK Tryz.prog 27 { d := .tup, size := 1, zero := none, bytes := 0, eqs := none } := tyMk (by kernel_rfl) (by kernel_rfl) noEq
theorem ty28 : TyOK Tryz.prog 28 { d := .func, size := 1, zero := some .nilFunc, bytes := 8, eqs := none } := tyMk (by kernel_rfl) (by kernel_rfl) noEq
theorem ty29 : TyOK Tryz.prog 29 { d := .func, size := 1, zero := some .nilFunc, bytes := 8, eqs := none } := tyMk (by kernel_rfl) (by kernel_rfl) noEq
theorem ty30 : TyOK Tryz.prog 30 { d := .func, size := 1, zero := some .nilFunc, bytes := 8, eqs := none } := tyMk (by kernel_rfl) (by kernel_rfl) noEq
theorem ty31 : TyOK Tryz.prog 31 { d := .func, size := 1, zero := some .nilFunc, bytes := 8, eqs := none } := tyMk (by kernel_rfl) (by kernel_rfl) noEq
theorem ty32 : TyOK Tryz.prog 32 { d := .func, size := 1, zero := some .nilFunc, bytes := 8, eqs := none } := tyMk (by kernel_rfl) (by kernel_rfl) noEq
theorem ty33 : TyOK Tryz.prog 33 { d := .func, size := 1, zero := some .nilFunc, bytes := 8, eqs := none } := tyMk (by kernel_rfl) (by kernel_rfl) noEq
theorem ty34 : TyOK Tryz.prog 34 { d := .func, size := 1, zero := some .nilFunc, bytes := 8, eqs := none } := tyMk (by kernel_rfl) (by kernel_rfl) noEq
theorem ty35 : TyOK Tryz.prog 35 { d := .func, size := 1, zero := some .nilFunc, bytes := 8, eqs := none } := tyMk (by kernel_rfl) (by kernel_rfl) noEq
theorem ty36 : TyOK Tryz.prog 36 { d := .func, size := 1, zero := some .nilFunc, bytes := 8, eqs := none } := tyMk (by kernel_rfl) (by kernel_rfl) noEq
theorem ty37 : TyOK Tryz.prog 37 { d := .func, size := 1, zero := some .nilFunc, bytes := 8, eqs := none } := tyMk (by kernel_rfl) (by kernel_rfl) noEq
theorem ty38 : TyOK Tryz.prog 38 { d := .func, size := 1, zero := some .nilFunc, bytes := 8, eqs := none } := tyMk (by kernel_rfl) (by kernel_rfl) noEq
theorem ty39 : TyOK Tryz.prog 39 { d := .func, size := 1, zero := some .nilFunc, bytes := 8, eqs := none } := tyMk (by kernel_rfl) (by kernel_rfl) noEq
theorem ty40 : TyOK Tryz.prog 40 { d := .int .u64, size := 1, zero := some (.int .u64 (.z 0)), bytes := 8, eqs := none } := tyMk (by kernel_rfl) (by kernel_rfl) noEq
theorem ty41 : TyOK Tryz.prog 41 { d := .struct [(40, 0), (40, 1)], size := 2, zero := some (.agg [(.int .u64 (.z 0)), (.int .u64 (.z 0))]), bytes := 16, eqs := some [false, false] } := tyMk (by kernel_rfl) (by kernel_rfl) (someEq (eqOK_of (by kernel_rfl) (by kernel_rfl)))
theorem ty42 : TyOK Tryz.prog 42 { d := .struct [(40, 0), (40, 1)], size := 2, zero := some (.agg [(.int .u64 (.z 0)), (.int .u64 (.z 0))]), bytes := 16, eqs := some [false, false] } := tyMk (by kernel_rfl) (by kernel_rfl) (someEq (eqOK_of (by kernel_rfl) (by kernel_rfl)))
theorem ty43 : TyOK Tryz.prog 43 { d := .struct [(3, 0), (3, 1), (42, 2), (3, 4), (3, 5)], size := 6, zero := some (.agg [(.int .i64 (.z 0)), (.int .i64 (.z 0)), (.int .u64 (.z 0)), (.int .u64 (.z 0)), (.int .i64 (.z 0)), (.int .i64 (.z 0))]), bytes := 48, eqs := some [false, false, false, false, false, false] } := tyMk (by kernel_rfl) (by kernel_rfl) (someEq (eqOK_of (by kernel_rfl) (by kernel_rfl)))
theorem ty44 : TyOK Tryz.prog 44 { d := .struct [(3, 0), (3, 1), (42, 2), (3, 4), (3, 5)], size := 6, zero := some (.agg [(.int .i64 (.z 0)), (.int .i64 (.z 0)), (.int .u64 (.z 0)), (.int .u64 (.z 0)), (.int .i64 (.z 0)), (.int .i64 (.z 0))]), bytes := 48, eqs := some [false, false, false, false, false, false] } := tyMk (by kernel_rfl) (by kernel_rfl) (someEq (eqOK_of (by kernel_rfl) (by kernel_rfl)))
theorem ty45 : TyOK Tryz.prog 45 { d := .tup, size := 1, zero := none, bytes := 0, eqs := none } := tyMk (by kernel_rfl) (by kernel_rfl) noEq
theorem ty46 : TyOK Tryz.prog 46 { d := .func, size := 1, zero := some .nilFunc, bytes := 8, eqs := none } := tyMk (by kernel_rfl) (by kernel_rfl) noEq
theorem ty47 : TyOK Tryz.prog 47 { d := .slice 3, size := 1, zero := some .nilRow, bytes := 24, eqs := none } := tyMk (by kernel_rfl) (by kernel_rfl) noEq
theorem ty48 : TyOK Tryz.prog 48 { d := .func, size := 1, zero := some .nilFunc, bytes := 8, eqs := none } := tyMk (by kernel_rfl) (by kernel_rfl) noEq
theorem ty49 : TyOK Tryz.prog 49 { d := .tup, size := 1, zero := some (.tup [(.int .i64 (.z 0)), (.int .i64 (.z 0))]), bytes := 0, eqs := none } := tyMk (by kernel_rfl) (by kernel_rfl) noEq
theorem ty50 : TyOK Tryz.prog 50 { d := .func, size := 1, zero := some .nilFunc, bytes := 8, eqs := none } := tyMk (by kernel_rfl) (by kernel_rfl) noEq
theorem ty51 : TyOK Tryz.prog 51 { d := .func, size := 1, zero := some .nilFunc, bytes := 8, eqs := none } := tyMk (by kernel_rfl) (by kernel_rfl) noEq
theorem ty52 : TyOK Tryz.prog 52 { d := .func, size := 1, zero := some .nilFunc, bytes := 8, eqs := none } := tyMk (by kernel_rfl) (by kernel_rfl) noEq
theorem ty53 : TyOK Tryz.prog 53 { d := .struct [(26, 0)], size := 1, zero := some (.agg [(.int .i64 (.z 0))]), bytes := 8, eqs := some [false] } := tyMk (by kernel_rfl) (by kernel_rfl) (someEq (eqOK_of (by kernel_rfl) (by kernel_rfl)))
theorem ty54 : TyOK Tryz.prog 54 { d := .struct [(26, 0)], size := 1, zero := some (.agg [(.int .i64 (.z 0))]), bytes := 8, eqs := some [false] } := tyMk (by kernel_rfl) (by kernel_rfl) (someEq (eqOK_of (by kernel_rfl) (by kernel_rfl)))
theorem ty55 : TyOK Tryz.prog 55 { d := .tup, size := 1, zero := none, bytes := 0, eqs := none } := tyMk (by kernel_rfl) (by kernel_rfl) noEq
theorem ty56 : TyOK Tryz.prog 56 { d := .func, size := 1, zero := some .nilFunc, bytes := 8, eqs := none } := tyMk (by kernel_rfl) (by kernel_rfl) noEq
theorem ty57 : TyOK Tryz.prog 57 { d := .func, size := 1, zero := some .nilFunc, bytes := 8, eqs := none } := tyMk (by kernel_rfl) (by kernel_rfl) noEq
theorem ty58 : TyOK Tryz.prog 58 { d := .iface, size := 1, zero := some .nilIface, bytes := 16, eqs := none } := tyMk (by kernel_rfl) (by kernel_rfl) noEq
theorem ty59 : TyOK Tryz.prog 59 { d := .iface, size := 1, zero := some .nilIface, bytes := 16, eqs := none } := tyMk (by kernel_rfl) (by kernel_rfl) noEq
theorem ty60 : TyOK Tryz.prog 60 { d := .func, size := 1, zero := some .nilFunc, bytes := 8, eqs := none } := tyMk (by kernel_rfl) (by kernel_rfl) noEq
theorem ty61 : TyOK Tryz.prog 61 { d := .func, size := 1, zero := some .nilFunc, bytes := 8, eqs := none } := tyMk (by kernel_rfl) (by kernel_rfl) noEq
theorem ty62 : TyOK Tryz.prog 62 { d := .tup, size := 1, zero := some (.tup [(.int .i64 (.z 0)), (.int .i64 (.z 0))]), bytes := 0, eqs := none } := tyMk (by kernel_rfl) (by kernel_rfl) noEq
theorem ty63 : TyOK Tryz.prog 63 { d := .func, size := 1, zero := some .nilFunc, bytes := 8, eqs := none } := tyMk (by kernel_rfl) (by kernel_rfl) noEq
theorem ty64 : TyOK Tryz.prog 64 { d := .func, size := 1, zero := some .nilFunc, bytes := 8, eqs := none } := tyMk (by kernel_rfl) (by kernel_rfl) noEq
theorem ty65 : TyOK Tryz.prog 65 { d := .func, size := 1, zero := some .nilFunc, bytes := 8, eqs := none } := tyMk (by kernel_rfl) (by kernel_rfl) noEq
theorem ty66 : TyOK Tryz.prog 66 { d := .func, size := 1, zero := some .nilFunc, bytes := 8, eqs := none } := tyMk (by kernel_rfl) (by kernel_rfl) noEq
theorem ty67 : TyOK Tryz.prog 67 { d := .func, size := 1, zero := some .nilFunc, bytes := 8, eqs := none } := tyMk (by kernel_rfl) (by kernel_rfl) noEq
theorem ty68 : TyOK Tryz.prog 68 { d := .func, size := 1, zero := some .nilFunc, bytes := 8, eqs := none } := tyMk (by kernel_rfl) (by kernel_rfl) noEq
theorem ty69 : TyOK Tryz.prog 69 { d := .func, size := 1, zero := some .nilFunc, bytes := 8, eqs := none } := tyMk (by kernel_rfl) (by kernel_rfl) noEq
theorem ty70 : TyOK Tryz.prog 70 { d := .func, size := 1, zero := some .nilFunc, bytes := 8, eqs := none } := tyMk (by kernel_rfl) (by kernel_rfl) noEq
theorem ty71 : TyOK Tryz.prog 71 { d := .struct [(23, 0)], size := 5, zero := some (.agg [(.int .i64 (.z 0)), (.int .i64 (.z 0)), (.int .i64 (.z 0)), (.int .i64 (.z 0)), (.int .i64 (.z 0))]), bytes := 40, eqs := some [false, false, false, false, false] } := tyMk (by kernel_rfl) (by kernel_rfl) (someEq (eqOK_of (by kernel_rfl) (by kernel_rfl)))
theorem ty72 : TyOK Tryz.prog 72 { d := .struct [(23, 0)], size := 5, zero := some (.agg [(.int .i64 (.z 0)), (.int .i64 (.z 0)), (.int .i64 (.z 0)), (.int .i64 (.z 0)), (.int .i64 (.z 0))]), bytes := 40, eqs := some [false, false, false, false, false] } := tyMk (by kernel_rfl) (by kernel_rfl) (someEq (eqOK_of (by kernel_rfl) (by kernel_rfl)))
theorem ty73 : TyOK Tryz.prog 73 { d := .struct [(23, 0)], size := 5, zero := some (.agg [(.int .i64 (.z 0)), (.int .i64 (.z 0)), (.int .i64 (.z 0)), (.int .i64 (.z 0)), (.int .i64 (.z 0))]), bytes := 40, eqs := some [false, false, false, false, false] } := tyMk (by kernel_rfl) (by kernel_rfl) (someEq (eqOK_of (by kernel_rfl) (by kernel_rfl)))
theorem ty74 : TyOK Tryz.prog 74 { d := .ptr 90, size := 1, zero := some .nilp, bytes := 8, eqs := none } := tyMk (by kernel_rfl) (by kernel_rfl) noEq
theorem ty75 : TyOK Tryz.prog 75 { d := .struct [], size := 0, zero := some (.agg []), bytes := 0, eqs := some [] } := tyMk (by kernel_rfl) (by kernel_rfl) (someEq (eqOK_of (by kernel_rfl) (by kernel_rfl)))
theorem ty76 : TyOK Tryz.prog 76 { d := .struct [], size := 0, zero := some (.agg []), bytes := 0, eqs := some [] } := tyMk (by kernel_rfl) (by kernel_rfl) (someEq (eqOK_of (by kernel_rfl) (by kernel_rfl)))
theorem ty77 : TyOK Tryz.prog 77 { d := .struct [], size := 0, zero := some (.agg []), bytes := 0, eqs := some [] } := tyMk (by kernel_rfl) (by kernel_rfl) (someEq (eqOK_of (by kernel_rfl) (by kernel_rfl)))
theorem ty78 : TyOK Tryz.prog 78 { d := .int .u32, size := 1, zero := some (.int .u32 (.z 0)), bytes := 4, eqs := none } := tyMk (by kernel_rfl) (by kernel_rfl) noEq
theorem ty79 : TyOK Tryz.prog 79 { d := .struct [(77, 0), (78, 0)], size := 1, zero := some (.agg [(.int .u32 (.z 0))]), bytes := 4, eqs := none } := tyMk (by kernel_rfl) (by kernel_rfl) noEq
theorem ty80 : TyOK Tryz.prog 80 { d := .struct [(77, 0), (78, 0)], size := 1, zero := some (.agg [(.int .u32 (.z 0))]), bytes := 4, eqs := none } := tyMk (by kernel_rfl) (by kernel_rfl) noEq
theorem ty81 : TyOK Tryz.prog 81 { d := .struct [(21, 0), (78, 1)], size := 2, zero := some (.agg [(.int .i32 (.z 0)), (.int .u32 (.z 0))]), bytes := 8, eqs := some [false, false] } := tyMk (by kernel_rfl) (by kernel_rfl) (someEq (eqOK_of (by kernel_rfl) (by kernel_rfl)))
theorem ty82 : TyOK Tryz.prog 82 { d := .struct [(21, 0), (78, 1)], size := 2, zero := some (.agg [(.int .i32 (.z 0)), (.int .u32 (.z 0))]), bytes := 8, eqs := some [false, false] } := tyMk (by kernel_rfl) (by kernel_rfl) (someEq (eqOK_of (by kernel_rfl) (by kernel_rfl)))
theorem ty83 : TyOK Tryz.prog 83 { d := .struct [(76, 0), (82, 0)], size := 2, zero := some (.agg [(.int .i32 (.z 0)), (.int .u32 (.z 0))]), bytes := 8, eqs := none } := tyMk (by kernel_rfl) (by kernel_rfl) noEq
theorem ty84 : TyOK Tryz.prog 84 { d := .struct [(76, 0), (82, 0)], size := 2, zero := some (.agg [(.int .i32 (.z 0)), (.int .u32 (.z 0))]), bytes := 8, eqs := none } := tyMk (by kernel_rfl) (by kernel_rfl) noEq
theorem ty85 : TyOK Tryz.prog 85 { d := .struct [(76, 0), (80, 0), (84, 1)], size := 3, zero := some (.agg [(.int .u32 (.z 0)), (.int .i32 (.z 0)), (.int .u32 (.z 0))]), bytes := 12, eqs := none } := tyMk (by kernel_rfl) (by kernel_rfl) noEq
theorem ty86 : TyOK Tryz.prog 86 { d := .struct [(76, 0), (80, 0), (84, 1)], size := 3, zero := some (.agg [(.int .u32 (.z 0)), (.int .i32 (.z 0)), (.int .u32 (.z 0))]), bytes := 12, eqs := none } := tyMk (by kernel_rfl) (by kernel_rfl) noEq
theorem ty87 : TyOK Tryz.prog 87 { d := .arr 9 3, size := 9, zero := some (.agg [(.int .i64 (.z 0)), (.int .i64 (.z 0)), (.int .i64 (.z 0)), (.int .i64 (.z 0)), (.int .i64 (.z 0)), (.int .i64 (.z 0)), (.int .i64 (.z 0)), (.int .i64 (.z 0)), (.int .i64 (.z 0))]), bytes := 72, eqs := some [false, false, false, false, false, false, false, false, false] } := tyMk (by kernel_rfl) (by kernel_rfl) (someEq (eqOK_of (by kernel_rfl) (by kernel_rfl)))
theorem ty88 : TyOK Tryz.prog 88 { d := .arr 7 87, size := 63, zero := some (.agg [(.int .i64 (.z 0)), (.int .i64 (.z 0)), (.int .i64 (.z 0)), (.int .i64 (.z 0)), (.int .i64 (.z 0)), (.int .i64 (.z 0)), (.int .i64 (.z 0)), (.int .i64 (.z 0)), (.int .i64 (.z 0)), (.int .i64 (.z 0)), (.int .i64 (.z 0)), (.int .i64 (.z 0)), (.int .i64 (.z 0)), (.int .i64 (.z 0)), (.int .i64 (.z 0)), (.int .i64 (.z 0)), (.int .i64 (.z 0)), (.int .i64 (.z 0)), (.int .i64 (.z 0)), (.int .i64 (.z 0)), (.int .i64 (.z 0)), (.int .i64 (.z 0)), (.int .i64 (.z 0)), (.int .i64 (.z 0)), (.int .i64 (.z 0)), (.int .i64 (.z 0)), (.int .i64 (.z 0)), (.int .i64 (.z 0)), (.int .i64 (.z 0)), (.int .i64 (.z 0)), (.int .i64 (.z 0)), (.int .i64 (.z 0)), (.int .i64 (.z 0)), (.int .i64 (.z 0)), (.int .i64 (.z 0)), (.int .i64 (.z 0)), (.int .i64 (.z 0)), (.int .i64 (.z 0)), (.int .i64 (.z 0)), (.int .i64 (.z 0)), (.int .i64 (.z 0)), (.int .i64 (.z 0)), (.int .i64 (.z 0)), (.int .i64 (.z 0)), (.int .i64 (.z 0)), (.int .i64 (.z 0)), (.int .i64 (.z 0)), (.int .i64 (.z 0)), (.int .i64 (.z 0)), (.int .i64 (.z 0)), (.int .i64 (.z 0)), (.int .i64 (.z 0)), (.int .i64 (.z 0)), (.int .i64 (.z 0)), (.int .i64 (.z 0)), (.int .i64 (.z 0)), (.int .i64 (.z 0)), (.int .i64 (.z 0)), (.int .i64 (.z 0)), (.int .i64 (.z 0)), (.int .i64 (.z 0)), (.int .i64 (.z 0)), (.int .i64 (.z 0))]), bytes := 504, eqs := some [false, false, false, false, false, false, false, false, false, false, false, false, false, false, false, false, false, false, false, false, false, false, false, false, false, false, false, false, false, false, false, false, false, false, false, false, false, false, false, false, false, false, false, false, false, false, false, false, false, false, false, false, false, false, false, false, false, false, false, false, false, false, false] } := tyMk (by kernel_rfl) (by kernel_rfl) (someEq (eqOK_of (by kernel_rfl) (by kernel_rfl)))
theorem ty89 : TyOK Tryz.prog 89 { d := .struct [(86, 0), (88, 3)], size := 66, zero := some (.agg [(.int .u32 (.z 0)), (.int .i32 (.z 0)), (.int .u32 (.z 0)), (.int .i64 (.z 0)), (.int .i64 (.z 0)), (.int .i64 (.z 0)), (.int .i64 (.z 0)), (.int .i64 (.z 0)), (.int .i64 (.z 0)), (.int .i64 (.z 0)), (.int .i64 (.z 0)), (.int .i64 (.z 0)), (.int .i64 (.z 0)), (.int .i64 (.z 0)), (.int .i64 (.z 0)), (.int .i64 (.z 0)), (.int .i64 (.z 0)), (.int .i64 (.z 0)), (.int .i64 (.z 0)), (.int .i64 (.z 0)), (.int .i64 (.z 0)), (.int .i64 (.z 0)), (.int .i64 (.z 0)), (.int .i64 (.z 0)), (.int .i64 (.z 0)), (.int .i64 (.z 0)), (.int .i64 (.z 0)), (.int .i64 (.z 0)), (.int .i64 (.z 0)), (.int .i64 (.z 0)), (.int .i64 (.z 0)), (.int .i64 (.z 0)), (.int .i64 (.z 0)), (.int .i64 (.z 0)), (.int .i64 (.z 0)), (.int .i64 (.z 0)), (.int .i64 (.z 0)), (.int .i64 (.z 0)), (.int .i64 (.z 0)), (.int .i64 (.z 0)), (.int .i64 (.z 0)), (.int .i64 (.z 0)), (.int .i64 (.z 0)), (.int .i64 (.z 0)), (.int .i64 (.z 0)), (.int .i64 (.z 0)), (.int .i64 (.z 0)), (.int .i64 (.z 0)), (.int .i64 (.z 0)), (.int .i64 (.z 0)), (.int .i64 (.z 0)), (.int .i64 (.z 0)), (.int .i64 (.z 0)), (.int .i64 (.z 0)), (.int .i64 (.z 0)), (.int .i64 (.z 0)), (.int .i64 (.z 0)), (.int .i64 (.z 0)), (.int .i64 (.z 0)), (.int .i64 (.z 0)), (.int .i64 (.z 0)), (.int .i64 (.z 0)), (.int .i64 (.z 0)), (.int .i64 (.z 0)), (.int .i64 (.z 0)), (.int .i64 (.z 0))]), bytes := 520, eqs := none } := tyMk (by kernel_rfl) (by kernel_rfl) noEq
theorem ty90 : TyOK Tryz.prog 90 { d := .struct [(86, 0), (88, 3)], size := 66, zero := some (.agg [(.int .u32 (.z 0)), (.int .i32 (.z 0)), (.int .u32 (.z 0)), (.int .i64 (.z 0)), (.int .i64 (.z 0)), (.int .i64 (.z 0)), (.int .i64 (.z 0)), (.int .i64 (.z 0)), (.int .i64 (.z 0)), (.int .i64 (.z 0)), (.int .i64 (.z 0)), (.int .i64 (.z 0)), (.int .i64 (.z 0)), (.int .i64 (.z 0)), (.int .i64 (.z 0)), (.int .i64 (.z 0)), (.int .i64 (.z 0)), (.int .i64 (.z 0)), (.int .i64 (.z 0)), (.int .i64 (.z 0)), (.int .i64 (.z 0)), (.int .i64 (.z 0)), (.int .i64 (.z 0)), (.int .i64 (.z 0)), (.int .i64 (.z 0)), (.int .i64 (.z 0)), (.int .i64 (.z 0)), (.int .i64 (.z 0)), (.int .i64 (.z 0)), (.int .i64 (.z 0)), (.int .i64 (.z 0)), (.int .i64 (.z 0)), (.int .i64 (.z 0)), (.int .i64 (.z 0)), (.int .i64 (.z 0)), (.int .i64 (.z 0)), (.int .i64 (.z 0)), (.int .i64 (.z 0)), (.int .i64 (.z 0)), (.int .i64 (.z 0)), (.int .i64 (.z 0)), (.int .i64 (.z 0)), (.int .i64 (.z 0)), (.int .i64 (.z 0)), (.int .i64 (.z 0)), (.int .i64 (.z 0)), (.int .i64 (.z 0)), (.int .i64 (.z 0)), (.int .i64 (.z 0)), (.int .i64 (.z 0)), (.int .i64 (.z 0)), (.int .i64 (.z 0)), (.int .i64 (.z 0)), (.int .i64 (.z 0)), (.int .i64 (.z 0)), (.int .i64 (.z 0)), (.int .i64 (.z 0)), (.int .i64 (.z 0)), (.int .i64 (.z 0)), (.int .i64 (.z 0)), (.int .i64 (.z 0)), (.int .i64 (.z 0)), (.int .i64 (.z 0)), (.int .i64 (.z 0)), (.int .i64 (.z 0)), (.int .i64 (.z 0))]), bytes := 520, eqs := none } := tyMk (by kernel_rfl) (by kernel_rfl) noEq
theorem ty91 : TyOK Tryz.prog 91 { d := .func, size := 1, zero := some .nilFunc, bytes := 8, eqs := none } := tyMk (by kernel_rfl) (by kernel_rfl) noEq
theorem ty92 : TyOK Tryz.prog 92 { d := .arr 3 91, size := 3, zero := some (.agg [.nilFunc, .nilFunc, .nilFunc]), bytes := 24, eqs := none } := tyMk (by kernel_rfl) (by kernel_rfl) noEq
theorem ty93 : TyOK Tryz.prog 93 { d := .func, size := 1, zero := some .nilFunc, bytes := 8, eqs := none } := tyMk (by kernel_rfl) (by kernel_rfl) noEq
theorem ty94 : TyOK Tryz.prog 94 { d := .func, size := 1, zero := some .nilFunc, bytes := 8, eqs := none } := tyMk (by kernel_rfl) (by kernel_rfl) noEq
theorem ty95 : TyOK Tryz.prog 95 { d := .func, size := 1, zero := some .nilFunc, bytes := 8, eqs := none } := tyMk (by kernel_rfl) (by kernel_rfl) noEq
theorem ty96 : TyOK Tryz.prog 96 { d := .struct [(42, 0), (42, 2), (42, 4), (4, 6)], size := 7, zero := some (.agg [(.int .u64 (.z 0)), (.int .u64 (.z 0)), (.int .u64 (.z 0)), (.int .u64 (.z 0)), (.int .u64 (.z 0)), (.int .u64 (.z 0)), (.bool .f)]), bytes := 56, eqs := some [false, false, false, false, false, false, true] } := tyMk (by kernel_rfl) (by kernel_rfl) (someEq (eqOK_of (by kernel_rfl) (by kernel_rfl)))
theorem ty97 : TyOK Tryz.prog 97 { d := .struct [(42, 0), (42, 2), (42, 4), (4, 6)], size := 7, zero := some (.agg [(.int .u64 (.z 0)), (.int .u64 (.z 0)), (.int .u64 (.z 0)), (.int .u64 (.z 0)), (.int .u64 (.z 0)), (.int .u64 (.z 0)), (.bool .f)]), bytes := 56, eqs := some [false, false, false, false, false, false, true] } := tyMk (by kernel_rfl) (by kernel_rfl) (someEq (eqOK_of (by kernel_rfl) (by kernel_rfl)))
theorem ty98 : TyOK Tryz.prog 98 { d := .tup, size := 1, zero := none, bytes := 0, eqs := none } := tyMk (by kernel_rfl) (by kernel_rfl) noEq
theorem ty99 : TyOK Tryz.prog 99 { d := .func, size := 1, zero := some .nilFunc, bytes := 8, eqs := none } := tyMk (by kernel_rfl) (by kernel_rfl) noEq
theorem ty100 : TyOK Tryz.prog 100 { d := .func, size := 1, zero := some .nilFunc, bytes := 8, eqs := none } := tyMk (by kernel_rfl) (by kernel_rfl) noEq
theorem ty101 : TyOK Tryz.prog 101 { d := .tup, size := 1, zero := none, bytes := 0, eqs := none } := tyMk (by kernel_rfl) (by kernel_rfl) noEq
theorem ty102 : TyOK Tryz.prog 102 { d := .func, size := 1, zero := some .nilFunc, bytes := 8, eqs := none } := tyMk (by kernel_rfl) (by kernel_rfl) noEq
theorem ty103 : TyOK Tryz.prog 103 { d := .func, size := 1, zero := some .nilFunc, bytes := 8, eqs := none } := tyMk (by kernel_rfl) (by kernel_rfl) noEq
theorem ty104 : TyOK Tryz.prog 104 { d := .func, size := 1, zero := some .nilFunc, bytes := 8, eqs := none } := tyMk (by kernel_rfl) (by kernel_rfl) noEq
theorem ty105 : TyOK Tryz.prog 105 { d := .func, size := 1, zero := some .nilFunc, bytes := 8, eqs := none } := tyMk (by kernel_rfl) (by kernel_rfl) noEq
theorem ty106 : TyOK Tryz.prog 106 { d := .func, size := 1, zero := some .nilFunc, bytes := 8, eqs := none } := tyMk (by kernel_rfl) (by kernel_rfl) noEq
theorem ty107 : TyOK Tryz.prog 107 { d := .slice 40, size := 1, zero := some .nilRow, bytes := 24, eqs := none } := tyMk (by kernel_rfl) (by kernel_rfl) noEq
theorem ty108 : TyOK Tryz.prog 108 { d := .func, size := 1, zero := some .nilFunc, bytes := 8, eqs := none } := tyMk (by kernel_rfl) (by kernel_rfl) noEq
theorem ty109 : TyOK Tryz.prog 109 { d := .func, size := 1, zero := some .nilFunc, bytes := 8, eqs := none } := tyMk (by kernel_rfl) (by kernel_rfl) noEq
theorem ty110 : TyOK Tryz.prog 110 { d := .tup, size := 1, zero := none, bytes := 0, eqs := none } := tyMk (by kernel_rfl) (by kernel_rfl) noEq
theorem ty111 : TyOK Tryz.prog 111 { d := .func, size := 1, zero := some .nilFunc, bytes := 8, eqs := none } := tyMk (by kernel_rfl) (by kernel_rfl) noEq
theorem ty112 : TyOK Tryz.prog 112 { d := .func, size := 1, zero := some .nilFunc, bytes := 8, eqs := none } := tyMk (by kernel_rfl) (by kernel_rfl) noEq
theorem ty113 : TyOK Tryz.prog 113 { d := .struct [(4, 0), (42, 1)], size := 3, zero := some (.agg [(.bool .f), (.int .u64 (.z 0)), (.int .u64 (.z 0))]), bytes := 24, eqs := some [true, false, false] } := tyMk (by kernel_rfl) (by kernel_rfl) (someEq (eqOK_of (by kernel_rfl) (by kernel_rfl)))
theorem ty114 : TyOK Tryz.prog 114 { d := .struct [(4, 0), (42, 1)], size := 3, zero := some (.agg [(.bool .f), (.int .u64 (.z 0)), (.int .u64 (.z 0))]), bytes := 24, eqs := some [true, false, false] } := tyMk (by kernel_rfl) (by kernel_rfl) (someEq (eqOK_of (by kernel_rfl) (by kernel_rfl)))
theorem ty115 : TyOK Tryz.prog 115 { d := .func, size := 1, zero := some .nilFunc, bytes := 8, eqs := none } := tyMk (by kernel_rfl) (by kernel_rfl) noEq
theorem ty116 : TyOK Tryz.prog 116 { d := .func, size := 1, zero := some .nilFunc, bytes := 8, eqs := none } := tyMk (by kernel_rfl) (by kernel_rfl) noEq
theorem ty117 : TyOK Tryz.prog 117 { d := .struct [], size := 0, zero := some (.agg []), bytes := 0, eqs := some [] } := tyMk (by kernel_rfl) (by kernel_rfl) (someEq (eqOK_of (by kernel_rfl) (by kernel_rfl)))
theorem ty118 : TyOK Tryz.prog 118 { d := .tup, size := 1, zero := none, bytes := 0, eqs := none } := tyMk (by kernel_rfl) (by kernel_rfl) noEq
theorem ty119 : TyOK Tryz.prog 119 { d := .tup, size := 1, zero := some (.tup [(.int .u64 (.z 0)), (.int .u64 (.z 0))]), bytes := 0, eqs := none } := tyMk (by kernel_rfl) (by kernel_rfl) noEq
theorem ty120 : TyOK Tryz.prog 120 { d := .func, size := 1, zero := some .nilFunc, bytes := 8, eqs := none } := tyMk (by kernel_rfl) (by kernel_rfl) noEq
theorem ty121 : TyOK Tryz.prog 121 { d := .func, size := 1, zero := some .nilFunc, bytes := 8, eqs := none } := tyMk (by kernel_rfl) (by kernel_rfl) noEq
theorem ty122 : TyOK Tryz.prog 122 { d := .func, size := 1, zero := some .nilFunc, bytes := 8, eqs := none } := tyMk (by kernel_rfl) (by kernel_rfl) noEq
theorem ty123 : TyOK Tryz.prog 123 { d := .func, size := 1, zero := some .nilFunc, bytes := 8, eqs := none } := tyMk (by kernel_rfl) (by kernel_rfl) noEq
theorem ty124 : TyOK Tryz.prog 124 { d := .arr 2 40, size := 2, zero := some (.agg [(.int .u64 (.z 0)), (.int .u64 (.z 0))]), bytes := 16, eqs := some [false, false] } := tyMk (by kernel_rfl) (by kernel_rfl) (someEq (eqOK_of (by kernel_rfl) (by kernel_rfl)))
theorem ty125 : TyOK Tryz.prog 125 { d := .func, size := 1, zero := some .nilFunc, bytes := 8, eqs := none } := tyMk (by kernel_rfl) (by kernel_rfl) noEq
theorem ty126 : TyOK Tryz.prog 126 { d := .arr 2 42, size := 4, zero := some (.agg [(.int .u64 (.z 0)), (.int .u64 (.z 0)), (.int .u64 (.z 0)), (.int .u64 (.z 0))]), bytes := 32, eqs := some [false, false, false, false] } := tyMk (by kernel_rfl) (by kernel_rfl) (someEq (eqOK_of (by kernel_rfl) (by kernel_rfl)))
theorem ty127 : TyOK Tryz.prog 127 { d := .func, size := 1, zero := some .nilFunc, bytes := 8, eqs := none } := tyMk (by kernel_rfl) (by kernel_rfl) noEq
theorem ty128 : TyOK Tryz.prog 128 { d := .int .u64, size := 1, zero := some (.int .u64 (.z 0)), bytes := 8, eqs := none } := tyMk (by kernel_rfl) (by kernel_rfl) noEq
theorem ty129 : TyOK Tryz.prog 129 { d := .func, size := 1, zero := some .nilFunc, bytes := 8, eqs := none } := tyMk (by kernel_rfl) (by kernel_rfl) noEq
theorem ty130 : TyOK Tryz.prog 130 { d := .tup, size := 1, zero := none, bytes := 0, eqs := none } := tyMk (by kernel_rfl) (by kernel_rfl) noEq
theorem ty131 : TyOK Tryz.prog 131 { d := .func, size := 1, zero := some .nilFunc, bytes := 8, eqs := none } := tyMk (by kernel_rfl) (by kernel_rfl) noEq
theorem ty132 : TyOK Tryz.prog 132 { d := .func, size := 1, zero := some .nilFunc, bytes := 8, eqs := none } := tyMk (by kernel_rfl) (by kernel_rfl) noEq
theorem ty133 : TyOK Tryz.prog 133 { d := .func, size := 1, zero := some .nilFunc, bytes := 8, eqs := none } := tyMk (by kernel_rfl) (by kernel_rfl) noEq
theorem ty134 : TyOK Tryz.prog 134 { d := .ptr 86, size := 1, zero := some .nilp, bytes := 8, eqs := none } := tyMk (by kernel_rfl) (by kernel_rfl) noEq
theorem ty135 : TyOK Tryz.prog 135 { d := .iface, size := 1, zero := some .nilIface, bytes := 16, eqs := none } := tyMk (by kernel_rfl) (by kernel_rfl) noEq
theorem ty136 : TyOK Tryz.prog 136 { d := .iface, size := 1, zero := some .nilIface, bytes := 16, eqs := none } := tyMk (by kernel_rfl) (by kernel_rfl) noEq
theorem ty137 : TyOK Tryz.prog 137 { d := .func, size := 1, zero := some .nilFunc, bytes := 8, eqs := none } := tyMk (by kernel_rfl) (by kernel_rfl) noEq
theorem ty138 : TyOK Tryz.prog 138 { d := .func, size := 1, zero := some .nilFunc, bytes := 8, eqs := none } := tyMk (by kernel_rfl) (by kernel_rfl) noEq
theorem ty139 : TyOK Tryz.prog 139 { d := .func, size := 1, zero := some .nilFunc, bytes := 8, eqs := none } := tyMk (by kernel_rfl) (by kernel_rfl) noEq
theorem ty140 : TyOK Tryz.prog 140 { d := .func, size := 1, zero := some .nilFunc, bytes := 8, eqs := none } := tyMk (by kernel_rfl) (by kernel_rfl) noEq
theorem ty141 : TyOK Tryz.prog 141 { d := .tup, size := 1, zero := some (.tup [(.int .i64 (.z 0)), (.bool .f)]), bytes := 0, eqs := none } := tyMk (by kernel_rfl) (by kernel_rfl) noEq
theorem ty142 : TyOK Tryz.prog 142 { d := .func, size := 1, zero := some .nilFunc, bytes := 8, eqs := none } := tyMk (by kernel_rfl) (by kernel_rfl) noEq
theorem ty143 : TyOK Tryz.prog 143 { d := .ptr 80, size := 1, zero := some .nilp, bytes := 8, eqs := none } := tyMk (by kernel_rfl) (by kernel_rfl) noEq
theorem ty144 : TyOK Tryz.prog 144 { d := .func, size := 1, zero := some .nilFunc, bytes := 8, eqs := none } := tyMk (by kernel_rfl) (by kernel_rfl) noEq
theorem ty145 : TyOK Tryz.prog 145 { d := .ptr 78, size := 1, zero := some .nilp, bytes := 8, eqs := none } := tyMk (by kernel_rfl) (by kernel_rfl) noEq
theorem ty146 : TyOK Tryz.prog 146 { d := .func, size := 1, zero := some .nilFunc, bytes := 8, eqs := none } := tyMk (by kernel_rfl) (by kernel_rfl) noEq
theorem ty147 : TyOK Tryz.prog 147 { d := .ptr 84, size := 1, zero := some .nilp, bytes := 8, eqs := none } := tyMk (by kernel_rfl) (by kernel_rfl) noEq
theorem ty148 : TyOK Tryz.prog 148 { d := .func, size := 1, zero := some .nilFunc, bytes := 8, eqs := none } := tyMk (by kernel_rfl) (by kernel_rfl) noEq
theorem ty149 : TyOK Tryz.prog 149 { d := .func, size := 1, zero := some .nilFunc, bytes := 8, eqs := none } := tyMk (by kernel_rfl) (by kernel_rfl) noEq
theorem ty150 : TyOK Tryz.prog 150 { d := .ptr 82, size := 1, zero := some .nilp, bytes := 8, eqs := none } := tyMk (by kernel_rfl) (by kernel_rfl) noEq
theorem ty151 : TyOK Tryz.prog 151 { d := .func, size := 1, zero := some .nilFunc, bytes := 8, eqs := none } := tyMk (by kernel_rfl) (by kernel_rfl) noEq
theorem ty152 : TyOK Tryz.prog 152 { d := .ptr 21, size := 1, zero := some .nilp, bytes := 8, eqs := none } := tyMk (by kernel_rfl) (by kernel_rfl) noEq
theorem ty153 : TyOK Tryz.prog 153 { d := .func, size := 1, zero := some .nilFunc, bytes := 8, eqs := none } := tyMk (by kernel_rfl) (by kernel_rfl) noEq
theorem ty155 : TyOK Tryz.prog 155 { d := .func, size := 1, zero := some .nilFunc, bytes := 8, eqs := none } := tyMk (by kernel_rfl) (by kernel_rfl) noEq
theorem ty156 : TyOK Tryz.prog 156 { d := .func, size := 1, zero := some .nilFunc, bytes := 8, eqs := none } := tyMk (by kernel_rfl) (by kernel_rfl) noEq
theorem ty157 : TyOK Tryz.prog 157 { d := .func, size := 1, zero := some .nilFunc, bytes := 8, eqs := none } := tyMk (by kernel_rfl) (by kernel_rfl) noEq
theorem ty158 : TyOK Tryz.prog 158 { d := .func, size := 1, zero := some .nilFunc, bytes := 8, eqs := none } := tyMk (by kernel_rfl) (by kernel_rfl) noEq
theorem ty159 : TyOK Tryz.prog 159 { d := .func, size := 1, zero := some .nilFunc, bytes := 8, eqs := none } := tyMk (by kernel_rfl) (by kernel_rfl) noEq
theorem ty160 : TyOK Tryz.prog 160 { d := .ptr 179, size := 1, zero := some .nilp, bytes := 8, eqs := none } := tyMk (by kernel_rfl) (by kernel_rfl) noEq
theorem ty161 : TyOK Tryz.prog 161 { d := .func, size := 1, zero := some .nilFunc, bytes := 8, eqs := none } := tyMk (by kernel_rfl) (by kernel_rfl) noEq
theorem ty164 : TyOK Tryz.prog 164 { d := .arr 0 16, size := 0, zero := some (.agg []), bytes := 0, eqs := none } := tyMk (by kernel_rfl) (by kernel_rfl) noEq
theorem ty165 : TyOK Tryz.prog 165 { d := .struct [(164, 0)], size := 0, zero := some (.agg []), bytes := 0, eqs := none } := tyMk (by kernel_rfl) (by kernel_rfl) noEq
theorem ty166 : TyOK Tryz.prog 166 { d := .struct [(164, 0)], size := 0, zero := some (.agg []), bytes := 0, eqs := none } := tyMk (by kernel_rfl) (by kernel_rfl) noEq
theorem ty167 : TyOK Tryz.prog 167 { d := .int .u8, size := 1, zero := some (.int .u8 (.z 0)), bytes := 1, eqs := none } := tyMk (by kernel_rfl) (by kernel_rfl) noEq
theorem ty168 : TyOK Tryz.prog 168 { d := .int .u8, size := 1, zero := some (.int .u8 (.z 0)), bytes := 1, eqs := none } := tyMk (by kernel_rfl) (by kernel_rfl) noEq
theorem ty169 : TyOK Tryz.prog 169 { d := .func, size := 1, zero := some .nilFunc, bytes := 8, eqs := none } := tyMk (by kernel_rfl) (by kernel_rfl) noEq
theorem ty170 : TyOK Tryz.prog 170 { d := .ptr 5, size := 1, zero := some .nilp, bytes := 8, eqs := none } := tyMk (by kernel_rfl) (by kernel_rfl) noEq
theorem ty171 : TyOK Tryz.prog 171 { d := .int .i32, size := 1, zero := some (.int .i32 (.z 0)), bytes := 4, eqs := none } := tyMk (by kernel_rfl) (by kernel_rfl) noEq
theorem ty172 : TyOK Tryz.prog 172 { d := .int .i32, size := 1, zero := some (.int .i32 (.z 0)), bytes := 4, eqs := none } := tyMk (by kernel_rfl) (by kernel_rfl) noEq
theorem ty173 : TyOK Tryz.prog 173 { d := .struct [(12, 0), (12, 1), (78, 2), (167, 3), (5, 4), (5, 5), (168, 6), (169, 7), (170, 8), (171, 9), (172, 10)], size := 11, zero := some (.agg [(.int .u64 (.z 0)), (.int .u64 (.z 0)), (.int .u32 (.z 0)), (.int .u8 (.z 0)), (.int .u8 (.z 0)), (.int .u8 (.z 0)), (.int .u8 (.z 0)), .nilFunc, .nilp, (.int .i32 (.z 0)), (.int .i32 (.z 0))]), bytes := 48, eqs := none } := tyMk (by kernel_rfl) (by kernel_rfl) noEq
theorem ty174 : TyOK Tryz.prog 174 { d := .struct [(12, 0), (12, 1), (78, 2), (167, 3), (5, 4), (5, 5), (168, 6), (169, 7), (170, 8), (171, 9), (172, 10)], size := 11, zero := some (.agg [(.int .u64 (.z 0)), (.int .u64 (.z 0)), (.int .u32 (.z 0)), (.int .u8 (.z 0)), (.int .u8 (.z 0)), (.int .u8 (.z 0)), (.int .u8 (.z 0)), .nilFunc, .nilp, (.int .i32 (.z 0)), (.int .i32 (.z 0))]), bytes := 48, eqs := none } := tyMk (by kernel_rfl) (by kernel_rfl) noEq
theorem ty175 : TyOK Tryz.prog 175 { d := .func, size := 1, zero := some .nilFunc, bytes := 8, eqs := none } := tyMk (by kernel_rfl) (by kernel_rfl) noEq
theorem ty176 : TyOK Tryz.prog 176 { d := .func, size := 1, zero := some .nilFunc, bytes := 8, eqs := none } := tyMk (by kernel_rfl) (by kernel_rfl) noEq
theorem ty177 : TyOK Tryz.prog 177 { d := .func, size := 1, zero := some .nilFunc, bytes := 8, eqs := none } := tyMk (by kernel_rfl) (by kernel_rfl) noEq
theorem tysOK : ∀ t ty, find t tys = some ty → TyOK Tryz.prog t ty :=
  tyCons ty0 <| tyCons ty1 <| tyCons ty2 <| tyCons ty3 <| tyCons ty4 <| tyCons ty5 <| tyCons ty6 <| tyCons ty7 <| tyCons ty8 <| tyCons ty12 <| tyCons ty15 <| tyCons ty16 <| tyCons ty17 <| tyCons ty18 <| tyCons ty19 <| tyCons ty20 <| tyCons ty21 <| tyCons ty22 <| tyCons ty23 <| tyCons ty24 <| tyCons ty25 <| tyCons ty26 <| tyCons ty27 <| tyCons ty28 <| tyCons ty29 <| tyCons ty30 <| tyCons ty31 <| tyCons ty32 <| tyCons ty33 <| tyCons ty34 <| tyCons ty35 <| tyCons ty36 <| tyCons ty37 <| tyCons ty38 <| tyCons ty39 <| tyCons ty40 <| tyCons ty41 <| tyCons ty42 <| tyCons ty43 <| tyCons ty44 <| tyCons ty45 <| tyCons ty46 <| tyCons ty47 <| tyCons ty48 <| tyCons ty49 <| tyCons ty50 <| tyCons ty51 <| tyCons ty52 <| tyCons ty53 <| tyCons ty54 <| tyCons ty55 <| tyCons ty56 <| tyCons ty57 <| tyCons ty58 <| tyCons ty59 <| tyCons ty60 <| tyCons ty61 <| tyCons ty62 <| tyCons ty63 <| tyCons ty64 <| tyCons ty65 <| tyCons ty66 <| tyCons ty67 <| tyCons ty68 <| tyCons ty69 <| tyCons ty70 <| tyCons ty71 <| tyCons ty72 <| tyCons ty73 <| tyCons ty74 <| tyCons ty75 <| tyCons ty76 <| tyCons ty77 <| tyCons ty78 <| tyCons ty79 <| tyCons ty80 <| tyCons ty81 <| tyCons ty82 <| tyCons ty83 <| tyCons ty84 <| tyCons ty85 <| tyCons ty86 <| tyCons ty87 <| tyCons ty88 <| tyCons ty89 <| tyCons ty90 <| tyCons ty91 <| tyCons ty92 <| tyCons ty93 <| tyCons ty94 <| tyCons ty95 <| tyCons ty96 <| tyCons ty97 <| tyCons ty98 <| tyCons ty99 <| tyCons ty100 <| tyCons ty101 <| tyCons ty102 <| tyCons ty103 <| tyCons ty104 <| tyCons ty105 <| tyCons ty106 <| tyCons ty107 <| tyCons ty108 <| tyCons ty109 <| tyCons ty110 <| tyCons ty111 <| tyCons ty112 <| tyCons ty113 <| tyCons ty114 <| tyCons ty115 <| tyCons ty116 <| tyCons ty117 <| tyCons ty118 <| tyCons ty119 <| tyCons ty120 <| tyCons ty121 <| tyCons ty122 <| tyCons ty123 <| tyCons ty124 <| tyCons ty125 <| tyCons ty126 <| tyCons ty127 <| tyCons ty128 <| tyCons ty129 <| tyCons ty130 <| tyCons ty131 <| tyCons ty132 <| tyCons ty133 <| tyCons ty134 <| tyCons ty135 <| tyCons ty136 <| tyCons ty137 <| tyCons ty138 <| tyCons ty139 <| tyCons ty140 <| tyCons ty141 <| tyCons ty142 <| tyCons ty143 <| tyCons ty144 <| tyCons ty145 <| tyCons ty146 <| tyCons ty147 <| tyCons ty148 <| tyCons ty149 <| tyCons ty150 <| tyCons ty151 <| tyCons ty152 <| tyCons ty153 <| tyCons ty155 <| tyCons ty156 <| tyCons ty157 <| tyCons ty158 <| tyCons ty159 <| tyCons ty160 <| tyCons ty161 <| tyCons ty164 <| tyCons ty165 <| tyCons ty166 <| tyCons ty167 <| tyCons ty168 <| tyCons ty169 <| tyCons ty170 <| tyCons ty171 <| tyCons ty172 <| tyCons ty173 <| tyCons ty174 <| tyCons ty175 <| tyCons ty176 <| tyCons ty177 <| fun _ _ h => tyNil h
theorem fnsOK : ∀ f fn, find f fns = some fn → Tryz.prog.funcs[f]? = some fn ∧ (fn.name == "runtime.NumGoroutine") = false :=
  fnCons Tryz.func2 (by kernel_rfl) <| fnCons Tryz.func3 (by kernel_rfl) <| fnCons Tryz.func4 (by kernel_rfl) <| fnCons Tryz.func5 (by kernel_rfl) <| fnCons Tryz.func6 (by kernel_rfl) <| fnCons Tryz.func7 (by kernel_rfl) <| fnCons Tryz.func8 (by kernel_rfl) <| fnCons Tryz.func9 (by kernel_rfl) <| fnCons Tryz.func10 (by kernel_rfl) <| fnCons Tryz.func11 (by kernel_rfl) <| fnCons Tryz.func12 (by kernel_rfl) <| fnCons Tryz.func13 (by kernel_rfl) <| fnCons Tryz.func14 (by kernel_rfl) <| fnCons Tryz.func15 (by kernel_rfl) <| fnCons Tryz.func16 (by kernel_rfl) <| fnCons Tryz.func17 (by kernel_rfl) <| fnCons Tryz.func18 (by kernel_rfl) <| fnCons Tryz.func19 (by kernel_rfl) <| fnCons Tryz.func20 (by kernel_rfl) <| fnCons Tryz.func21 (by kernel_rfl) <| fnCons Tryz.func22 (by kernel_rfl) <| fnCons Tryz.func23 (by kernel_rfl) <| fnCons Tryz.func24 (by kernel_rfl) <| fnCons Tryz.func25 (by kernel_rfl) <| fnCons Tryz.func26 (by kernel_rfl) <| fnCons Tryz.func27 (by kernel_rfl) <| fnCons Tryz.func28 (by kernel_rfl) <| fnCons Tryz.func29 (by kernel_rfl) <| fnCons Tryz.func30 (by kernel_rfl) <| fnCons Tryz.func31 (by kernel_rfl) <| fnCons Tryz.func32 (by kernel_rfl) <| fnCons Tryz.func33 (by kernel_rfl) <| fnCons Tryz.func34 (by kernel_rfl) <| fnCons Tryz.func35 (by kernel_rfl) <| fnCons Tryz.func36 (by kernel_rfl) <| fnCons Tryz.func37 (by kernel_rfl) <| fnCons Tryz.func38 (by kernel_rfl) <| fnCons Tryz.func39 (by kernel_rfl) <| fnCons Tryz.func40 (by kernel_rfl) <| fnCons Tryz.func41 (by kernel_rfl) <| fnCons Tryz.func42 (by kernel_rfl) <| fnCons Tryz.func43 (by kernel_rfl) <| fnCons Tryz.func44 (by kernel_rfl) <| fnCons Tryz.func45 (by kernel_rfl) <| fnCons Tryz.func46 (by kernel_rfl) <| fnCons Tryz.func47 (by kernel_rfl) <| fnCons Tryz.func48 (by kernel_rfl) <| fnCons Tryz.func49 (by kernel_rfl) <| fnCons Tryz.func50 (by kernel_rfl) <| fnCons Tryz.func51 (by kernel_rfl) <| fnCons Tryz.func52 (by kernel_rfl) <| fnCons Tryz.func53 (by kernel_rfl) <| fnCons Tryz.func54 (by kernel_rfl) <| fnCons Tryz.func55 (by kernel_rfl) <| fnCons Tryz.func56 (by kernel_rfl) <| fnCons Tryz.func57 (by kernel_rfl) <| fnCons Tryz.func58 (by kernel_rfl) <| fnCons Tryz.func59 (by kernel_rfl) <| fnCons Tryz.func60 (by kernel_rfl) <| fnCons Tryz.func61 (by kernel_rfl) <| fnCons Tryz.func62 (by kernel_rfl) <| fnCons Tryz.func63 (by kernel_rfl) <| fnCons Tryz.func64 (by kernel_rfl) <| fnCons Tryz.func65 (by kernel_rfl) <| fnCons Tryz.func66 (by kernel_rfl) <| fnCons Tryz.func67 (by kernel_rfl) <| fnCons Tryz.func68 (by kernel_rfl) <| fnCons Tryz.func69 (by kernel_rfl) <| fnCons Tryz.func70 (by kernel_rfl) <| fnCons Tryz.func71 (by kernel_rfl) <| fnCons Tryz.func73 (by kernel_rfl) <| fnCons Tryz.func74 (by kernel_rfl) <| fnCons Tryz.func75 (by kernel_rfl) <| fnCons Tryz.func76 (by kernel_rfl) <| fnCons Tryz.func77 (by kernel_rfl) <| fnCons Tryz.func78 (by kernel_rfl) <| fnCons Tryz.func79 (by kernel_rfl) <| fnCons Tryz.func80 (by kernel_rfl) <| fnCons Tryz.func81 (by kernel_rfl) <| fnCons Tryz.func82 (by kernel_rfl) <| fnCons Tryz.func83 (by kernel_rfl) <| fnCons Tryz.func84 (by kernel_rfl) <| fnCons Tryz.func86 (by kernel_rfl) <| fnCons Tryz.func87 (by kernel_rfl) <| fnCons Tryz.func88 (by kernel_rfl) <| fnCons Tryz.func89 (by kernel_rfl) <| fnCons Tryz.func90 (by kernel_rfl) <| fnCons Tryz.func91 (by kernel_rfl) <| fnCons Tryz.func92 (by kernel_rfl) <| fnCons Tryz.func94 (by kernel_rfl) <| fnCons Tryz.func95 (by kernel_rfl) <| fnCons Tryz.func96 (by kernel_rfl) <| fnCons Tryz.func97 (by kernel_rfl) <| fnCons Tryz.func98 (by kernel_rfl) <| fnCons Tryz.func100 (by kernel_rfl) <| fnCons Tryz.func105 (by kernel_rfl) <| fnCons Tryz.func108 (by kernel_rfl) <| fnCons Tryz.func134 (by kernel_rfl) <| fnCons Tryz.func138 (by kernel_rfl) <| fun _ _ h => fnNil h
def mets : List (Nat × String × Nat) := [(72, "datum/base.ranges", 131), (72, "datum/base.reach", 132), (72, "datum/base.scale", 133), (72, "datum/base.steps", 134), (73, "datum/base.ranges", 135), (73, "datum/base.reach", 136), (73, "datum/base.scale", 137), (73, "datum/base.steps", 138)]
theorem met0 : MetOK Tryz.prog 72 "datum/base.ranges" 131 := metMk (d := .struct [(23, 0)]) (by kernel_rfl) (by kernel_rfl) rfl
theorem met1 : MetOK Tryz.prog 72 "datum/base.reach" 132 := metMk (d := .struct [(23, 0)]) (by kernel_rfl) (by kernel_rfl) rfl
theorem met2 : MetOK Tryz.prog 72 "datum/base.scale" 133 := metMk (d := .struct [(23, 0)]) (by kernel_rfl) (by kernel_rfl) rfl
theorem met3 : MetOK Tryz.prog 72 "datum/base.steps" 134 := metMk (d := .struct [(23, 0)]) (by kernel_rfl) (by kernel_rfl) rfl
theorem met4 : MetOK Tryz.prog 73 "datum/base.ranges" 135 := metMk (d := .struct [(23, 0)]) (by kernel_rfl) (by kernel_rfl) rfl
theorem met5 : MetOK Tryz.prog 73 "datum/base.reach" 136 := metMk (d := .struct [(23, 0)]) (by kernel_rfl) (by kernel_rfl) rfl
theorem met6 : MetOK Tryz.prog 73 "datum/base.scale" 137 := metMk (d := .struct [(23, 0)]) (by kernel_rfl) (by kernel_rfl) rfl
theorem met7 : MetOK Tryz.prog 73 "datum/base.steps" 138 := metMk (d := .struct [(23, 0)]) (by kernel_rfl) (by kernel_rfl) rfl
theorem metsOK : ∀ t m f, findM t m mets = some f → MetOK Tryz.prog t m f :=
  metCons met0 <| metCons met1 <| metCons met2 <| metCons met3 <| metCons met4 <| metCons met5 <| metCons met6 <| metCons met7 <| fun _ _ _ h => metNil h
theorem mixedOK : Tryz.prog.follows .mixedOrders = true := by kernel_rfl

/-- an int; a word of 64 bits; a number of 128 -/
def IsI (x : Int) : Prop := -9223372036854775808 ≤ x ∧ x ≤ 9223372036854775807
def IsU (x : Int) : Prop := 0 ≤ x ∧ x ≤ 18446744073709551615
def val (h l : Int) : Int := h * 18446744073709551616 + l
end Go.Proofs.YtglpelnaeipenaaGreat.X
