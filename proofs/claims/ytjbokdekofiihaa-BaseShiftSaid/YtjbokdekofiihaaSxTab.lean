/-
  The seat's tables for the symbolic executor: its types and functions, each by a closed fact.
-/
import Derived.Test.YtjbokdekofiihaaProg
import Derived.Test.YtjbokdekofiihaaSxTy
namespace Go.Proofs.Ytjbokdekofiihaa.X
open Go Go.SX
set_option linter.unusedVariables false
def tys : List (Nat × Ty) := [
  (0, { d := .tup, size := 1, zero := some (.tup []), bytes := 0, eqs := none }),
  (1, { d := .func, size := 1, zero := some .nilFunc, bytes := 8, eqs := none }),
  (2, { d := .int .i64, size := 1, zero := some (.int .i64 (.z 0)), bytes := 8, eqs := none }),
  (3, { d := .int .i64, size := 1, zero := some (.int .i64 (.z 0)), bytes := 8, eqs := none }),
  (4, { d := .bool, size := 1, zero := some (.bool .f), bytes := 1, eqs := none }),
  (5, { d := .int .u8, size := 1, zero := some (.int .u8 (.z 0)), bytes := 1, eqs := none }),
  (6, { d := .int .u8, size := 1, zero := some (.int .u8 (.z 0)), bytes := 1, eqs := none }),
  (7, { d := .struct [(2, 0), (3, 1), (4, 2), (6, 3)], size := 4, zero := some (.agg [(.int .i64 (.z 0)), (.int .i64 (.z 0)), (.bool .f), (.int .u8 (.z 0))]), bytes := 24, eqs := some [false, false, true, false] }),
  (8, { d := .struct [(2, 0), (3, 1), (4, 2), (6, 3)], size := 4, zero := some (.agg [(.int .i64 (.z 0)), (.int .i64 (.z 0)), (.bool .f), (.int .u8 (.z 0))]), bytes := 24, eqs := some [false, false, true, false] }),
  (12, { d := .int .u64, size := 1, zero := some (.int .u64 (.z 0)), bytes := 8, eqs := none }),
  (15, { d := .ptr 106, size := 1, zero := some .nilp, bytes := 8, eqs := none }),
  (16, { d := .ptr 109, size := 1, zero := some .nilp, bytes := 8, eqs := none }),
  (17, { d := .ptr 117, size := 1, zero := some .nilp, bytes := 8, eqs := none }),
  (18, { d := .struct [(17, 0)], size := 1, zero := some (.agg [.nilp]), bytes := 8, eqs := none }),
  (19, { d := .struct [(17, 0)], size := 1, zero := some (.agg [.nilp]), bytes := 8, eqs := none }),
  (20, { d := .iface, size := 1, zero := some .nilIface, bytes := 16, eqs := none }),
  (21, { d := .int .i32, size := 1, zero := some (.int .i32 (.z 0)), bytes := 4, eqs := none }),
  (22, { d := .slice 3, size := 1, zero := some .nilRow, bytes := 24, eqs := none }),
  (23, { d := .slice 22, size := 1, zero := some .nilRow, bytes := 24, eqs := none }),
  (24, { d := .tup, size := 1, zero := some (.tup [(.int .i64 (.z 0)), .nilRow]), bytes := 0, eqs := none }),
  (25, { d := .func, size := 1, zero := some .nilFunc, bytes := 8, eqs := none }),
  (26, { d := .struct [(3, 0), (3, 1), (3, 2), (3, 3), (3, 4)], size := 5, zero := some (.agg [(.int .i64 (.z 0)), (.int .i64 (.z 0)), (.int .i64 (.z 0)), (.int .i64 (.z 0)), (.int .i64 (.z 0))]), bytes := 40, eqs := some [false, false, false, false, false] }),
  (27, { d := .struct [(3, 0), (3, 1), (3, 2), (3, 3), (3, 4)], size := 5, zero := some (.agg [(.int .i64 (.z 0)), (.int .i64 (.z 0)), (.int .i64 (.z 0)), (.int .i64 (.z 0)), (.int .i64 (.z 0))]), bytes := 40, eqs := some [false, false, false, false, false] }),
  (28, { d := .tup, size := 1, zero := none, bytes := 0, eqs := none }),
  (29, { d := .func, size := 1, zero := some .nilFunc, bytes := 8, eqs := none }),
  (30, { d := .func, size := 1, zero := some .nilFunc, bytes := 8, eqs := none }),
  (31, { d := .int .u64, size := 1, zero := some (.int .u64 (.z 0)), bytes := 8, eqs := none }),
  (32, { d := .struct [(31, 0), (31, 1)], size := 2, zero := some (.agg [(.int .u64 (.z 0)), (.int .u64 (.z 0))]), bytes := 16, eqs := some [false, false] }),
  (33, { d := .struct [(31, 0), (31, 1)], size := 2, zero := some (.agg [(.int .u64 (.z 0)), (.int .u64 (.z 0))]), bytes := 16, eqs := some [false, false] }),
  (34, { d := .struct [(3, 0), (3, 1), (3, 2), (33, 3)], size := 5, zero := some (.agg [(.int .i64 (.z 0)), (.int .i64 (.z 0)), (.int .i64 (.z 0)), (.int .u64 (.z 0)), (.int .u64 (.z 0))]), bytes := 40, eqs := some [false, false, false, false, false] }),
  (35, { d := .struct [(3, 0), (3, 1), (3, 2), (33, 3)], size := 5, zero := some (.agg [(.int .i64 (.z 0)), (.int .i64 (.z 0)), (.int .i64 (.z 0)), (.int .u64 (.z 0)), (.int .u64 (.z 0))]), bytes := 40, eqs := some [false, false, false, false, false] }),
  (36, { d := .int .i64, size := 1, zero := some (.int .i64 (.z 0)), bytes := 8, eqs := none }),
  (37, { d := .tup, size := 1, zero := none, bytes := 0, eqs := none }),
  (38, { d := .func, size := 1, zero := some .nilFunc, bytes := 8, eqs := none }),
  (39, { d := .func, size := 1, zero := some .nilFunc, bytes := 8, eqs := none }),
  (40, { d := .tup, size := 1, zero := some (.tup [(.int .i64 (.z 0)), (.int .i64 (.z 0))]), bytes := 0, eqs := none }),
  (41, { d := .func, size := 1, zero := some .nilFunc, bytes := 8, eqs := none }),
  (42, { d := .func, size := 1, zero := some .nilFunc, bytes := 8, eqs := none }),
  (43, { d := .tup, size := 1, zero := none, bytes := 0, eqs := none }),
  (44, { d := .func, size := 1, zero := some .nilFunc, bytes := 8, eqs := none }),
  (45, { d := .func, size := 1, zero := some .nilFunc, bytes := 8, eqs := none }),
  (46, { d := .func, size := 1, zero := some .nilFunc, bytes := 8, eqs := none }),
  (47, { d := .tup, size := 1, zero := some (.tup [(.int .i64 (.z 0)), (.int .i64 (.z 0)), (.int .i64 (.z 0)), (.int .i64 (.z 0))]), bytes := 0, eqs := none }),
  (48, { d := .iface, size := 1, zero := some .nilIface, bytes := 16, eqs := none }),
  (49, { d := .iface, size := 1, zero := some .nilIface, bytes := 16, eqs := none }),
  (50, { d := .func, size := 1, zero := some .nilFunc, bytes := 8, eqs := none }),
  (51, { d := .func, size := 1, zero := some .nilFunc, bytes := 8, eqs := none }),
  (52, { d := .func, size := 1, zero := some .nilFunc, bytes := 8, eqs := none }),
  (53, { d := .tup, size := 1, zero := some (.tup [(.int .i64 (.z 0)), (.int .i64 (.z 0))]), bytes := 0, eqs := none }),
  (54, { d := .func, size := 1, zero := some .nilFunc, bytes := 8, eqs := none }),
  (55, { d := .func, size := 1, zero := some .nilFunc, bytes := 8, eqs := none }),
  (56, { d := .func, size := 1, zero := some .nilFunc, bytes := 8, eqs := none }),
  (57, { d := .func, size := 1, zero := some .nilFunc, bytes := 8, eqs := none }),
  (58, { d := .func, size := 1, zero := some .nilFunc, bytes := 8, eqs := none }),
  (59, { d := .func, size := 1, zero := some .nilFunc, bytes := 8, eqs := none }),
  (60, { d := .struct [(27, 0)], size := 5, zero := some (.agg [(.int .i64 (.z 0)), (.int .i64 (.z 0)), (.int .i64 (.z 0)), (.int .i64 (.z 0)), (.int .i64 (.z 0))]), bytes := 40, eqs := some [false, false, false, false, false] }),
  (61, { d := .struct [(27, 0)], size := 5, zero := some (.agg [(.int .i64 (.z 0)), (.int .i64 (.z 0)), (.int .i64 (.z 0)), (.int .i64 (.z 0)), (.int .i64 (.z 0))]), bytes := 40, eqs := some [false, false, false, false, false] }),
  (62, { d := .struct [(27, 0)], size := 5, zero := some (.agg [(.int .i64 (.z 0)), (.int .i64 (.z 0)), (.int .i64 (.z 0)), (.int .i64 (.z 0)), (.int .i64 (.z 0))]), bytes := 40, eqs := some [false, false, false, false, false] }),
  (63, { d := .tup, size := 1, zero := some (.tup [(.int .u64 (.z 0)), (.int .u64 (.z 0))]), bytes := 0, eqs := none }),
  (64, { d := .func, size := 1, zero := some .nilFunc, bytes := 8, eqs := none }),
  (65, { d := .ptr 81, size := 1, zero := some .nilp, bytes := 8, eqs := none }),
  (66, { d := .struct [], size := 0, zero := some (.agg []), bytes := 0, eqs := some [] }),
  (67, { d := .struct [], size := 0, zero := some (.agg []), bytes := 0, eqs := some [] }),
  (68, { d := .struct [], size := 0, zero := some (.agg []), bytes := 0, eqs := some [] }),
  (69, { d := .int .u32, size := 1, zero := some (.int .u32 (.z 0)), bytes := 4, eqs := none }),
  (70, { d := .struct [(68, 0), (69, 0)], size := 1, zero := some (.agg [(.int .u32 (.z 0))]), bytes := 4, eqs := none }),
  (71, { d := .struct [(68, 0), (69, 0)], size := 1, zero := some (.agg [(.int .u32 (.z 0))]), bytes := 4, eqs := none }),
  (72, { d := .struct [(21, 0), (69, 1)], size := 2, zero := some (.agg [(.int .i32 (.z 0)), (.int .u32 (.z 0))]), bytes := 8, eqs := some [false, false] }),
  (73, { d := .struct [(21, 0), (69, 1)], size := 2, zero := some (.agg [(.int .i32 (.z 0)), (.int .u32 (.z 0))]), bytes := 8, eqs := some [false, false] }),
  (74, { d := .struct [(67, 0), (73, 0)], size := 2, zero := some (.agg [(.int .i32 (.z 0)), (.int .u32 (.z 0))]), bytes := 8, eqs := none }),
  (75, { d := .struct [(67, 0), (73, 0)], size := 2, zero := some (.agg [(.int .i32 (.z 0)), (.int .u32 (.z 0))]), bytes := 8, eqs := none }),
  (76, { d := .struct [(67, 0), (71, 0), (75, 1)], size := 3, zero := some (.agg [(.int .u32 (.z 0)), (.int .i32 (.z 0)), (.int .u32 (.z 0))]), bytes := 12, eqs := none }),
  (77, { d := .struct [(67, 0), (71, 0), (75, 1)], size := 3, zero := some (.agg [(.int .u32 (.z 0)), (.int .i32 (.z 0)), (.int .u32 (.z 0))]), bytes := 12, eqs := none }),
  (78, { d := .arr 9 3, size := 9, zero := some (.agg [(.int .i64 (.z 0)), (.int .i64 (.z 0)), (.int .i64 (.z 0)), (.int .i64 (.z 0)), (.int .i64 (.z 0)), (.int .i64 (.z 0)), (.int .i64 (.z 0)), (.int .i64 (.z 0)), (.int .i64 (.z 0))]), bytes := 72, eqs := some [false, false, false, false, false, false, false, false, false] }),
  (79, { d := .arr 7 78, size := 63, zero := some (.agg [(.int .i64 (.z 0)), (.int .i64 (.z 0)), (.int .i64 (.z 0)), (.int .i64 (.z 0)), (.int .i64 (.z 0)), (.int .i64 (.z 0)), (.int .i64 (.z 0)), (.int .i64 (.z 0)), (.int .i64 (.z 0)), (.int .i64 (.z 0)), (.int .i64 (.z 0)), (.int .i64 (.z 0)), (.int .i64 (.z 0)), (.int .i64 (.z 0)), (.int .i64 (.z 0)), (.int .i64 (.z 0)), (.int .i64 (.z 0)), (.int .i64 (.z 0)), (.int .i64 (.z 0)), (.int .i64 (.z 0)), (.int .i64 (.z 0)), (.int .i64 (.z 0)), (.int .i64 (.z 0)), (.int .i64 (.z 0)), (.int .i64 (.z 0)), (.int .i64 (.z 0)), (.int .i64 (.z 0)), (.int .i64 (.z 0)), (.int .i64 (.z 0)), (.int .i64 (.z 0)), (.int .i64 (.z 0)), (.int .i64 (.z 0)), (.int .i64 (.z 0)), (.int .i64 (.z 0)), (.int .i64 (.z 0)), (.int .i64 (.z 0)), (.int .i64 (.z 0)), (.int .i64 (.z 0)), (.int .i64 (.z 0)), (.int .i64 (.z 0)), (.int .i64 (.z 0)), (.int .i64 (.z 0)), (.int .i64 (.z 0)), (.int .i64 (.z 0)), (.int .i64 (.z 0)), (.int .i64 (.z 0)), (.int .i64 (.z 0)), (.int .i64 (.z 0)), (.int .i64 (.z 0)), (.int .i64 (.z 0)), (.int .i64 (.z 0)), (.int .i64 (.z 0)), (.int .i64 (.z 0)), (.int .i64 (.z 0)), (.int .i64 (.z 0)), (.int .i64 (.z 0)), (.int .i64 (.z 0)), (.int .i64 (.z 0)), (.int .i64 (.z 0)), (.int .i64 (.z 0)), (.int .i64 (.z 0)), (.int .i64 (.z 0)), (.int .i64 (.z 0))]), bytes := 504, eqs := some [false, false, false, false, false, false, false, false, false, false, false, false, false, false, false, false, false, false, false, false, false, false, false, false, false, false, false, false, false, false, false, false, false, false, false, false, false, false, false, false, false, false, false, false, false, false, false, false, false, false, false, false, false, false, false, false, false, false, false, false, false, false, false] }),
  (80, { d := .struct [(77, 0), (79, 3)], size := 66, zero := some (.agg [(.int .u32 (.z 0)), (.int .i32 (.z 0)), (.int .u32 (.z 0)), (.int .i64 (.z 0)), (.int .i64 (.z 0)), (.int .i64 (.z 0)), (.int .i64 (.z 0)), (.int .i64 (.z 0)), (.int .i64 (.z 0)), (.int .i64 (.z 0)), (.int .i64 (.z 0)), (.int .i64 (.z 0)), (.int .i64 (.z 0)), (.int .i64 (.z 0)), (.int .i64 (.z 0)), (.int .i64 (.z 0)), (.int .i64 (.z 0)), (.int .i64 (.z 0)), (.int .i64 (.z 0)), (.int .i64 (.z 0)), (.int .i64 (.z 0)), (.int .i64 (.z 0)), (.int .i64 (.z 0)), (.int .i64 (.z 0)), (.int .i64 (.z 0)), (.int .i64 (.z 0)), (.int .i64 (.z 0)), (.int .i64 (.z 0)), (.int .i64 (.z 0)), (.int .i64 (.z 0)), (.int .i64 (.z 0)), (.int .i64 (.z 0)), (.int .i64 (.z 0)), (.int .i64 (.z 0)), (.int .i64 (.z 0)), (.int .i64 (.z 0)), (.int .i64 (.z 0)), (.int .i64 (.z 0)), (.int .i64 (.z 0)), (.int .i64 (.z 0)), (.int .i64 (.z 0)), (.int .i64 (.z 0)), (.int .i64 (.z 0)), (.int .i64 (.z 0)), (.int .i64 (.z 0)), (.int .i64 (.z 0)), (.int .i64 (.z 0)), (.int .i64 (.z 0)), (.int .i64 (.z 0)), (.int .i64 (.z 0)), (.int .i64 (.z 0)), (.int .i64 (.z 0)), (.int .i64 (.z 0)), (.int .i64 (.z 0)), (.int .i64 (.z 0)), (.int .i64 (.z 0)), (.int .i64 (.z 0)), (.int .i64 (.z 0)), (.int .i64 (.z 0)), (.int .i64 (.z 0)), (.int .i64 (.z 0)), (.int .i64 (.z 0)), (.int .i64 (.z 0)), (.int .i64 (.z 0)), (.int .i64 (.z 0)), (.int .i64 (.z 0))]), bytes := 520, eqs := none }),
  (81, { d := .struct [(77, 0), (79, 3)], size := 66, zero := some (.agg [(.int .u32 (.z 0)), (.int .i32 (.z 0)), (.int .u32 (.z 0)), (.int .i64 (.z 0)), (.int .i64 (.z 0)), (.int .i64 (.z 0)), (.int .i64 (.z 0)), (.int .i64 (.z 0)), (.int .i64 (.z 0)), (.int .i64 (.z 0)), (.int .i64 (.z 0)), (.int .i64 (.z 0)), (.int .i64 (.z 0)), (.int .i64 (.z 0)), (.int .i64 (.z 0)), (.int .i64 (.z 0)), (.int .i64 (.z 0)), (.int .i64 (.z 0)), (.int .i64 (.z 0)), (.int .i64 (.z 0)), (.int .i64 (.z 0)), (.int .i64 (.z 0)), (.int .i64 (.z 0)), (.int .i64 (.z 0)), (.int .i64 (.z 0)), (.int .i64 (.z 0)), (.int .i64 (.z 0)), (.int .i64 (.z 0)), (.int .i64 (.z 0)), (.int .i64 (.z 0)), (.int .i64 (.z 0)), (.int .i64 (.z 0)), (.int .i64 (.z 0)), (.int .i64 (.z 0)), (.int .i64 (.z 0)), (.int .i64 (.z 0)), (.int .i64 (.z 0)), (.int .i64 (.z 0)), (.int .i64 (.z 0)), (.int .i64 (.z 0)), (.int .i64 (.z 0)), (.int .i64 (.z 0)), (.int .i64 (.z 0)), (.int .i64 (.z 0)), (.int .i64 (.z 0)), (.int .i64 (.z 0)), (.int .i64 (.z 0)), (.int .i64 (.z 0)), (.int .i64 (.z 0)), (.int .i64 (.z 0)), (.int .i64 (.z 0)), (.int .i64 (.z 0)), (.int .i64 (.z 0)), (.int .i64 (.z 0)), (.int .i64 (.z 0)), (.int .i64 (.z 0)), (.int .i64 (.z 0)), (.int .i64 (.z 0)), (.int .i64 (.z 0)), (.int .i64 (.z 0)), (.int .i64 (.z 0)), (.int .i64 (.z 0)), (.int .i64 (.z 0)), (.int .i64 (.z 0)), (.int .i64 (.z 0)), (.int .i64 (.z 0))]), bytes := 520, eqs := none }),
  (82, { d := .func, size := 1, zero := some .nilFunc, bytes := 8, eqs := none }),
  (83, { d := .func, size := 1, zero := some .nilFunc, bytes := 8, eqs := none }),
  (84, { d := .int .u64, size := 1, zero := some (.int .u64 (.z 0)), bytes := 8, eqs := none }),
  (85, { d := .func, size := 1, zero := some .nilFunc, bytes := 8, eqs := none }),
  (86, { d := .ptr 77, size := 1, zero := some .nilp, bytes := 8, eqs := none }),
  (87, { d := .ptr 71, size := 1, zero := some .nilp, bytes := 8, eqs := none }),
  (88, { d := .func, size := 1, zero := some .nilFunc, bytes := 8, eqs := none }),
  (89, { d := .ptr 69, size := 1, zero := some .nilp, bytes := 8, eqs := none }),
  (90, { d := .func, size := 1, zero := some .nilFunc, bytes := 8, eqs := none }),
  (91, { d := .ptr 75, size := 1, zero := some .nilp, bytes := 8, eqs := none }),
  (92, { d := .func, size := 1, zero := some .nilFunc, bytes := 8, eqs := none }),
  (93, { d := .func, size := 1, zero := some .nilFunc, bytes := 8, eqs := none }),
  (94, { d := .ptr 73, size := 1, zero := some .nilp, bytes := 8, eqs := none }),
  (95, { d := .func, size := 1, zero := some .nilFunc, bytes := 8, eqs := none }),
  (96, { d := .ptr 21, size := 1, zero := some .nilp, bytes := 8, eqs := none }),
  (97, { d := .func, size := 1, zero := some .nilFunc, bytes := 8, eqs := none }),
  (99, { d := .func, size := 1, zero := some .nilFunc, bytes := 8, eqs := none }),
  (100, { d := .func, size := 1, zero := some .nilFunc, bytes := 8, eqs := none }),
  (101, { d := .func, size := 1, zero := some .nilFunc, bytes := 8, eqs := none }),
  (102, { d := .func, size := 1, zero := some .nilFunc, bytes := 8, eqs := none }),
  (103, { d := .func, size := 1, zero := some .nilFunc, bytes := 8, eqs := none }),
  (104, { d := .func, size := 1, zero := some .nilFunc, bytes := 8, eqs := none }),
  (107, { d := .arr 0 16, size := 0, zero := some (.agg []), bytes := 0, eqs := none }),
  (108, { d := .struct [(107, 0)], size := 0, zero := some (.agg []), bytes := 0, eqs := none }),
  (109, { d := .struct [(107, 0)], size := 0, zero := some (.agg []), bytes := 0, eqs := none }),
  (110, { d := .int .u8, size := 1, zero := some (.int .u8 (.z 0)), bytes := 1, eqs := none }),
  (111, { d := .int .u8, size := 1, zero := some (.int .u8 (.z 0)), bytes := 1, eqs := none }),
  (112, { d := .func, size := 1, zero := some .nilFunc, bytes := 8, eqs := none }),
  (113, { d := .ptr 5, size := 1, zero := some .nilp, bytes := 8, eqs := none }),
  (114, { d := .int .i32, size := 1, zero := some (.int .i32 (.z 0)), bytes := 4, eqs := none }),
  (115, { d := .int .i32, size := 1, zero := some (.int .i32 (.z 0)), bytes := 4, eqs := none }),
  (116, { d := .struct [(12, 0), (12, 1), (69, 2), (110, 3), (5, 4), (5, 5), (111, 6), (112, 7), (113, 8), (114, 9), (115, 10)], size := 11, zero := some (.agg [(.int .u64 (.z 0)), (.int .u64 (.z 0)), (.int .u32 (.z 0)), (.int .u8 (.z 0)), (.int .u8 (.z 0)), (.int .u8 (.z 0)), (.int .u8 (.z 0)), .nilFunc, .nilp, (.int .i32 (.z 0)), (.int .i32 (.z 0))]), bytes := 48, eqs := none }),
  (117, { d := .struct [(12, 0), (12, 1), (69, 2), (110, 3), (5, 4), (5, 5), (111, 6), (112, 7), (113, 8), (114, 9), (115, 10)], size := 11, zero := some (.agg [(.int .u64 (.z 0)), (.int .u64 (.z 0)), (.int .u32 (.z 0)), (.int .u8 (.z 0)), (.int .u8 (.z 0)), (.int .u8 (.z 0)), (.int .u8 (.z 0)), .nilFunc, .nilp, (.int .i32 (.z 0)), (.int .i32 (.z 0))]), bytes := 48, eqs := none })]
noncomputable def fns : List (Nat × Func) := [(2, Try.f2), (3, Try.f3), (4, Try.f4), (5, Try.f5), (6, Try.f6), (7, Try.f7), (8, Try.f8), (9, Try.f9), (10, Try.f10), (11, Try.f11), (12, Try.f12), (13, Try.f13), (14, Try.f14), (15, Try.f15), (16, Try.f16), (17, Try.f17), (18, Try.f18), (19, Try.f19), (20, Try.f20), (21, Try.f21), (22, Try.f22), (23, Try.f23), (24, Try.f24), (25, Try.f25), (26, Try.f26), (27, Try.f27), (28, Try.f28), (30, Try.f30), (31, Try.f31), (32, Try.f32), (33, Try.f33), (34, Try.f34), (36, Try.f36), (41, Try.f41), (44, Try.f44), (67, Try.f67), (68, Try.f68), (69, Try.f69), (70, Try.f70), (71, Try.f71), (72, Try.f72), (73, Try.f73), (74, Try.f74), (75, Try.f75), (76, Try.f76)]
theorem ty0 : TyOK Try.prog 0 { d := .tup, size := 1, zero := some (.tup []), bytes := 0, eqs := none } := tyMk (by kernel_rfl) (by kernel_rfl) noEq
theorem ty1 : TyOK Try.prog 1 { d := .func, size := 1, zero := some .nilFunc, bytes := 8, eqs := none } := tyMk (by kernel_rfl) (by kernel_rfl) noEq
theorem ty2 : TyOK Try.prog 2 { d := .int .i64, size := 1, zero := some (.int .i64 (.z 0)), bytes := 8, eqs := none } := tyMk (by kernel_rfl) (by kernel_rfl) noEq
theorem ty3 : TyOK Try.prog 3 { d := .int .i64, size := 1, zero := some (.int .i64 (.z 0)), bytes := 8, eqs := none } := tyMk (by kernel_rfl) (by kernel_rfl) noEq
theorem ty4 : TyOK Try.prog 4 { d := .bool, size := 1, zero := some (.bool .f), bytes := 1, eqs := none } := tyMk (by kernel_rfl) (by kernel_rfl) noEq
theorem ty5 : TyOK Try.prog 5 { d := .int .u8, size := 1, zero := some (.int .u8 (.z 0)), bytes := 1, eqs := none } := tyMk (by kernel_rfl) (by kernel_rfl) noEq
theorem ty6 : TyOK Try.prog 6 { d := .int .u8, size := 1, zero := some (.int .u8 (.z 0)), bytes := 1, eqs := none } := tyMk (by kernel_rfl) (by kernel_rfl) noEq
theorem ty7 : TyOK Try.prog 7 { d := .struct [(2, 0), (3, 1), (4, 2), (6, 3)], size := 4, zero := some (.agg [(.int .i64 (.z 0)), (.int .i64 (.z 0)), (.bool .f), (.int .u8 (.z 0))]), bytes := 24, eqs := some [false, false, true, false] } := tyMk (by kernel_rfl) (by kernel_rfl) (someEq (eqOK_of (by kernel_rfl) (by kernel_rfl)))
theorem ty8 : TyOK Try.prog 8 { d := .struct [(2, 0), (3, 1), (4, 2), (6, 3)], size := 4, zero := some (.agg [(.int .i64 (.z 0)), (.int .i64 (.z 0)), (.bool .f), (.int .u8 (.z 0))]), bytes := 24, eqs := some [false, false, true, false] } := tyMk (by kernel_rfl) (by kernel_rfl) (someEq (eqOK_of (by kernel_rfl) (by kernel_rfl)))
theorem ty12 : TyOK Try.prog 12 { d := .int .u64, size := 1, zero := some (.int .u64 (.z 0)), bytes := 8, eqs := none } := tyMk (by kernel_rfl) (by kernel_rfl) noEq
theorem ty15 : TyOK Try.prog 15 { d := .ptr 106, size := 1, zero := some .nilp, bytes := 8, eqs := none } := tyMk (by kernel_rfl) (by kernel_rfl) noEq
theorem ty16 : TyOK Try.prog 16 { d := .ptr 109, size := 1, zero := some .nilp, bytes := 8, eqs := none } := tyMk (by kernel_rfl) (by kernel_rfl) noEq
theorem ty17 : TyOK Try.prog 17 { d := .ptr 117, size := 1, zero := some .nilp, bytes := 8, eqs := none } := tyMk (by kernel_rfl) (by kernel_rfl) noEq
theorem ty18 : TyOK Try.prog 18 { d := .struct [(17, 0)], size := 1, zero := some (.agg [.nilp]), bytes := 8, eqs := none } := tyMk (by kernel_rfl) (by kernel_rfl) noEq
theorem ty19 : TyOK Try.prog 19 { d := .struct [(17, 0)], size := 1, zero := some (.agg [.nilp]), bytes := 8, eqs := none } := tyMk (by kernel_rfl) (by kernel_rfl) noEq
theorem ty20 : TyOK Try.prog 20 { d := .iface, size := 1, zero := some .nilIface, bytes := 16, eqs := none } := tyMk (by kernel_rfl) (by kernel_rfl) noEq
theorem ty21 : TyOK Try.prog 21 { d := .int .i32, size := 1, zero := some (.int .i32 (.z 0)), bytes := 4, eqs := none } := tyMk (by kernel_rfl) (by kernel_rfl) noEq
theorem ty22 : TyOK Try.prog 22 { d := .slice 3, size := 1, zero := some .nilRow, bytes := 24, eqs := none } := tyMk (by kernel_rfl) (by kernel_rfl) noEq
theorem ty23 : TyOK Try.prog 23 { d := .slice 22, size := 1, zero := some .nilRow, bytes := 24, eqs := none } := tyMk (by kernel_rfl) (by kernel_rfl) noEq
theorem ty24 : TyOK Try.prog 24 { d := .tup, size := 1, zero := some (.tup [(.int .i64 (.z 0)), .nilRow]), bytes := 0, eqs := none } := tyMk (by kernel_rfl) (by kernel_rfl) noEq
theorem ty25 : TyOK Try.prog 25 { d := .func, size := 1, zero := some .nilFunc, bytes := 8, eqs := none } := tyMk (by kernel_rfl) (by kernel_rfl) noEq
theorem ty26 : TyOK Try.prog 26 { d := .struct [(3, 0), (3, 1), (3, 2), (3, 3), (3, 4)], size := 5, zero := some (.agg [(.int .i64 (.z 0)), (.int .i64 (.z 0)), (.int .i64 (.z 0)), (.int .i64 (.z 0)), (.int .i64 (.z 0))]), bytes := 40, eqs := some [false, false, false, false, false] } := tyMk (by kernel_rfl) (by kernel_rfl) (someEq (eqOK_of (by kernel_rfl) (by kernel_rfl)))
theorem ty27 : TyOK Try.prog 27 { d := .struct [(3, 0), (3, 1), (3, 2), (3, 3), (3, 4)], size := 5, zero := some (.agg [(.int .i64 (.z 0)), (.int .i64 (.z 0)), (.int .i64 (.z 0)), (.int .i64 (.z 0)), (.int .i64 (.z 0))]), bytes := 40, eqs := some [false, false, false, false, false] } := tyMk (by kernel_rfl) (by kernel_rfl) (someEq (eqOK_of (by kernel_rfl) (by kernel_rfl)))
theorem ty28 : TyOK Try.prog 28 { d := .tup, size := 1, zero := none, bytes := 0, eqs := none } := tyMk (by kernel_rfl) (by kernel_rfl) noEq
theorem ty29 : TyOK Try.prog 29 { d := .func, size := 1, zero := some .nilFunc, bytes := 8, eqs := none } := tyMk (by kernel_rfl) (by kernel_rfl) noEq
theorem ty30 : TyOK Try.prog 30 { d := .func, size := 1, zero := some .nilFunc, bytes := 8, eqs := none } := tyMk (by kernel_rfl) (by kernel_rfl) noEq
theorem ty31 : TyOK Try.prog 31 { d := .int .u64, size := 1, zero := some (.int .u64 (.z 0)), bytes := 8, eqs := none } := tyMk (by kernel_rfl) (by kernel_rfl) noEq
theorem ty32 : TyOK Try.prog 32 { d := .struct [(31, 0), (31, 1)], size := 2, zero := some (.agg [(.int .u64 (.z 0)), (.int .u64 (.z 0))]), bytes := 16, eqs := some [false, false] } := tyMk (by kernel_rfl) (by kernel_rfl) (someEq (eqOK_of (by kernel_rfl) (by kernel_rfl)))
theorem ty33 : TyOK Try.prog 33 { d := .struct [(31, 0), (31, 1)], size := 2, zero := some (.agg [(.int .u64 (.z 0)), (.int .u64 (.z 0))]), bytes := 16, eqs := some [false, false] } := tyMk (by kernel_rfl) (by kernel_rfl) (someEq (eqOK_of (by kernel_rfl) (by kernel_rfl)))
theorem ty34 : TyOK Try.prog 34 { d := .struct [(3, 0), (3, 1), (3, 2), (33, 3)], size := 5, zero := some (.agg [(.int .i64 (.z 0)), (.int .i64 (.z 0)), (.int .i64 (.z 0)), (.int .u64 (.z 0)), (.int .u64 (.z 0))]), bytes := 40, eqs := some [false, false, false, false, false] } := tyMk (by kernel_rfl) (by kernel_rfl) (someEq (eqOK_of (by kernel_rfl) (by kernel_rfl)))
theorem ty35 : TyOK Try.prog 35 { d := .struct [(3, 0), (3, 1), (3, 2), (33, 3)], size := 5, zero := some (.agg [(.int .i64 (.z 0)), (.int .i64 (.z 0)), (.int .i64 (.z 0)), (.int .u64 (.z 0)), (.int .u64 (.z 0))]), bytes := 40, eqs := some [false, false, false, false, false] } := tyMk (by kernel_rfl) (by kernel_rfl) (someEq (eqOK_of (by kernel_rfl) (by kernel_rfl)))
theorem ty36 : TyOK Try.prog 36 { d := .int .i64, size := 1, zero := some (.int .i64 (.z 0)), bytes := 8, eqs := none } := tyMk (by kernel_rfl) (by kernel_rfl) noEq
theorem ty37 : TyOK Try.prog 37 { d := .tup, size := 1, zero := none, bytes := 0, eqs := none } := tyMk (by kernel_rfl) (by kernel_rfl) noEq
theorem ty38 : TyOK Try.prog 38 { d := .func, size := 1, zero := some .nilFunc, bytes := 8, eqs := none } := tyMk (by kernel_rfl) (by kernel_rfl) noEq
theorem ty39 : TyOK Try.prog 39 { d := .func, size := 1, zero := some .nilFunc, bytes := 8, eqs := none } := tyMk (by kernel_rfl) (by kernel_rfl) noEq
theorem ty40 : TyOK Try.prog 40 { d := .tup, size := 1, zero := some (.tup [(.int .i64 (.z 0)), (.int .i64 (.z 0))]), bytes := 0, eqs := none } := tyMk (by kernel_rfl) (by kernel_rfl) noEq
theorem ty41 : TyOK Try.prog 41 { d := .func, size := 1, zero := some .nilFunc, bytes := 8, eqs := none } := tyMk (by kernel_rfl) (by kernel_rfl) noEq
theorem ty42 : TyOK Try.prog 42 { d := .func, size := 1, zero := some .nilFunc, bytes := 8, eqs := none } := tyMk (by kernel_rfl) (by kernel_rfl) noEq
theorem ty43 : TyOK Try.prog 43 { d := .tup, size := 1, zero := none, bytes := 0, eqs := none } := tyMk (by kernel_rfl) (by kernel_rfl) noEq
theorem ty44 : TyOK Try.prog 44 { d := .func, size := 1, zero := some .nilFunc, bytes := 8, eqs := none } := tyMk (by kernel_rfl) (by kernel_rfl) noEq
theorem ty45 : TyOK Try.prog 45 { d := .func, size := 1, zero := some .nilFunc, bytes := 8, eqs := none } := tyMk (by kernel_rfl) (by kernel_rfl) noEq
theorem ty46 : TyOK Try.prog 46 { d := .func, size := 1, zero := some .nilFunc, bytes := 8, eqs := none } := tyMk (by kernel_rfl) (by kernel_rfl) noEq
theorem ty47 : TyOK Try.prog 47 { d := .tup, size := 1, zero := some (.tup [(.int .i64 (.z 0)), (.int .i64 (.z 0)), (.int .i64 (.z 0)), (.int .i64 (.z 0))]), bytes := 0, eqs := none } := tyMk (by kernel_rfl) (by kernel_rfl) noEq
theorem ty48 : TyOK Try.prog 48 { d := .iface, size := 1, zero := some .nilIface, bytes := 16, eqs := none } := tyMk (by kernel_rfl) (by kernel_rfl) noEq
theorem ty49 : TyOK Try.prog 49 { d := .iface, size := 1, zero := some .nilIface, bytes := 16, eqs := none } := tyMk (by kernel_rfl) (by kernel_rfl) noEq
theorem ty50 : TyOK Try.prog 50 { d := .func, size := 1, zero := some .nilFunc, bytes := 8, eqs := none } := tyMk (by kernel_rfl) (by kernel_rfl) noEq
theorem ty51 : TyOK Try.prog 51 { d := .func, size := 1, zero := some .nilFunc, bytes := 8, eqs := none } := tyMk (by kernel_rfl) (by kernel_rfl) noEq
theorem ty52 : TyOK Try.prog 52 { d := .func, size := 1, zero := some .nilFunc, bytes := 8, eqs := none } := tyMk (by kernel_rfl) (by kernel_rfl) noEq
theorem ty53 : TyOK Try.prog 53 { d := .tup, size := 1, zero := some (.tup [(.int .i64 (.z 0)), (.int .i64 (.z 0))]), bytes := 0, eqs := none } := tyMk (by kernel_rfl) (by kernel_rfl) noEq
theorem ty54 : TyOK Try.prog 54 { d := .func, size := 1, zero := some .nilFunc, bytes := 8, eqs := none } := tyMk (by kernel_rfl) (by kernel_rfl) noEq
theorem ty55 : TyOK Try.prog 55 { d := .func, size := 1, zero := some .nilFunc, bytes := 8, eqs := none } := tyMk (by kernel_rfl) (by kernel_rfl) noEq
theorem ty56 : TyOK Try.prog 56 { d := .func, size := 1, zero := some .nilFunc, bytes := 8, eqs := none } := tyMk (by kernel_rfl) (by kernel_rfl) noEq
theorem ty57 : TyOK Try.prog 57 { d := .func, size := 1, zero := some .nilFunc, bytes := 8, eqs := none } := tyMk (by kernel_rfl) (by kernel_rfl) noEq
theorem ty58 : TyOK Try.prog 58 { d := .func, size := 1, zero := some .nilFunc, bytes := 8, eqs := none } := tyMk (by kernel_rfl) (by kernel_rfl) noEq
theorem ty59 : TyOK Try.prog 59 { d := .func, size := 1, zero := some .nilFunc, bytes := 8, eqs := none } := tyMk (by kernel_rfl) (by kernel_rfl) noEq
theorem ty60 : TyOK Try.prog 60 { d := .struct [(27, 0)], size := 5, zero := some (.agg [(.int .i64 (.z 0)), (.int .i64 (.z 0)), (.int .i64 (.z 0)), (.int .i64 (.z 0)), (.int .i64 (.z 0))]), bytes := 40, eqs := some [false, false, false, false, false] } := tyMk (by kernel_rfl) (by kernel_rfl) (someEq (eqOK_of (by kernel_rfl) (by kernel_rfl)))
theorem ty61 : TyOK Try.prog 61 { d := .struct [(27, 0)], size := 5, zero := some (.agg [(.int .i64 (.z 0)), (.int .i64 (.z 0)), (.int .i64 (.z 0)), (.int .i64 (.z 0)), (.int .i64 (.z 0))]), bytes := 40, eqs := some [false, false, false, false, false] } := tyMk (by kernel_rfl) (by kernel_rfl) (someEq (eqOK_of (by kernel_rfl) (by kernel_rfl)))
theorem ty62 : TyOK Try.prog 62 { d := .struct [(27, 0)], size := 5, zero := some (.agg [(.int .i64 (.z 0)), (.int .i64 (.z 0)), (.int .i64 (.z 0)), (.int .i64 (.z 0)), (.int .i64 (.z 0))]), bytes := 40, eqs := some [false, false, false, false, false] } := tyMk (by kernel_rfl) (by kernel_rfl) (someEq (eqOK_of (by kernel_rfl) (by kernel_rfl)))
theorem ty63 : TyOK Try.prog 63 { d := .tup, size := 1, zero := some (.tup [(.int .u64 (.z 0)), (.int .u64 (.z 0))]), bytes := 0, eqs := none } := tyMk (by kernel_rfl) (by kernel_rfl) noEq
theorem ty64 : TyOK Try.prog 64 { d := .func, size := 1, zero := some .nilFunc, bytes := 8, eqs := none } := tyMk (by kernel_rfl) (by kernel_rfl) noEq
theorem ty65 : TyOK Try.prog 65 { d := .ptr 81, size := 1, zero := some .nilp, bytes := 8, eqs := none } := tyMk (by kernel_rfl) (by kernel_rfl) noEq
theorem ty66 : TyOK Try.prog 66 { d := .struct [], size := 0, zero := some (.agg []), bytes := 0, eqs := some [] } := tyMk (by kernel_rfl) (by kernel_rfl) (someEq (eqOK_of (by kernel_rfl) (by kernel_rfl)))
theorem ty67 : TyOK Try.prog 67 { d := .struct [], size := 0, zero := some (.agg []), bytes := 0, eqs := some [] } := tyMk (by kernel_rfl) (by kernel_rfl) (someEq (eqOK_of (by kernel_rfl) (by kernel_rfl)))
theorem ty68 : TyOK Try.prog 68 { d := .struct [], size := 0, zero := some (.agg []), bytes := 0, eqs := some [] } := tyMk (by kernel_rfl) (by kernel_rfl) (someEq (eqOK_of (by kernel_rfl) (by kernel_rfl)))
theorem ty69 : TyOK Try.prog 69 { d := .int .u32, size := 1, zero := some (.int .u32 (.z 0)), bytes := 4, eqs := none } := tyMk (by kernel_rfl) (by kernel_rfl) noEq
theorem ty70 : TyOK Try.prog 70 { d := .struct [(68, 0), (69, 0)], size := 1, zero := some (.agg [(.int .u32 (.z 0))]), bytes := 4, eqs := none } := tyMk (by kernel_rfl) (by kernel_rfl) noEq
theorem ty71 : TyOK Try.prog 71 { d := .struct [(68, 0), (69, 0)], size := 1, zero := some (.agg [(.int .u32 (.z 0))]), bytes := 4, eqs := none } := tyMk (by kernel_rfl) (by kernel_rfl) noEq
theorem ty72 : TyOK Try.prog 72 { d := .struct [(21, 0), (69, 1)], size := 2, zero := some (.agg [(.int .i32 (.z 0)), (.int .u32 (.z 0))]), bytes := 8, eqs := some [false, false] } := tyMk (by kernel_rfl) (by kernel_rfl) (someEq (eqOK_of (by kernel_rfl) (by kernel_rfl)))
theorem ty73 : TyOK Try.prog 73 { d := .struct [(21, 0), (69, 1)], size := 2, zero := some (.agg [(.int .i32 (.z 0)), (.int .u32 (.z 0))]), bytes := 8, eqs := some [false, false] } := tyMk (by kernel_rfl) (by kernel_rfl) (someEq (eqOK_of (by kernel_rfl) (by kernel_rfl)))
theorem ty74 : TyOK Try.prog 74 { d := .struct [(67, 0), (73, 0)], size := 2, zero := some (.agg [(.int .i32 (.z 0)), (.int .u32 (.z 0))]), bytes := 8, eqs := none } := tyMk (by kernel_rfl) (by kernel_rfl) noEq
theorem ty75 : TyOK Try.prog 75 { d := .struct [(67, 0), (73, 0)], size := 2, zero := some (.agg [(.int .i32 (.z 0)), (.int .u32 (.z 0))]), bytes := 8, eqs := none } := tyMk (by kernel_rfl) (by kernel_rfl) noEq
theorem ty76 : TyOK Try.prog 76 { d := .struct [(67, 0), (71, 0), (75, 1)], size := 3, zero := some (.agg [(.int .u32 (.z 0)), (.int .i32 (.z 0)), (.int .u32 (.z 0))]), bytes := 12, eqs := none } := tyMk (by kernel_rfl) (by kernel_rfl) noEq
theorem ty77 : TyOK Try.prog 77 { d := .struct [(67, 0), (71, 0), (75, 1)], size := 3, zero := some (.agg [(.int .u32 (.z 0)), (.int .i32 (.z 0)), (.int .u32 (.z 0))]), bytes := 12, eqs := none } := tyMk (by kernel_rfl) (by kernel_rfl) noEq
theorem ty78 : TyOK Try.prog 78 { d := .arr 9 3, size := 9, zero := some (.agg [(.int .i64 (.z 0)), (.int .i64 (.z 0)), (.int .i64 (.z 0)), (.int .i64 (.z 0)), (.int .i64 (.z 0)), (.int .i64 (.z 0)), (.int .i64 (.z 0)), (.int .i64 (.z 0)), (.int .i64 (.z 0))]), bytes := 72, eqs := some [false, false, false, false, false, false, false, false, false] } := tyMk (by kernel_rfl) (by kernel_rfl) (someEq (eqOK_of (by kernel_rfl) (by kernel_rfl)))
theorem ty79 : TyOK Try.prog 79 { d := .arr 7 78, size := 63, zero := some (.agg [(.int .i64 (.z 0)), (.int .i64 (.z 0)), (.int .i64 (.z 0)), (.int .i64 (.z 0)), (.int .i64 (.z 0)), (.int .i64 (.z 0)), (.int .i64 (.z 0)), (.int .i64 (.z 0)), (.int .i64 (.z 0)), (.int .i64 (.z 0)), (.int .i64 (.z 0)), (.int .i64 (.z 0)), (.int .i64 (.z 0)), (.int .i64 (.z 0)), (.int .i64 (.z 0)), (.int .i64 (.z 0)), (.int .i64 (.z 0)), (.int .i64 (.z 0)), (.int .i64 (.z 0)), (.int .i64 (.z 0)), (.int .i64 (.z 0)), (.int .i64 (.z 0)), (.int .i64 (.z 0)), (.int .i64 (.z 0)), (.int .i64 (.z 0)), (.int .i64 (.z 0)), (.int .i64 (.z 0)), (.int .i64 (.z 0)), (.int .i64 (.z 0)), (.int .i64 (.z 0)), (.int .i64 (.z 0)), (.int .i64 (.z 0)), (.int .i64 (.z 0)), (.int .i64 (.z 0)), (.int .i64 (.z 0)), (.int .i64 (.z 0)), (.int .i64 (.z 0)), (.int .i64 (.z 0)), (.int .i64 (.z 0)), (.int .i64 (.z 0)), (.int .i64 (.z 0)), (.int .i64 (.z 0)), (.int .i64 (.z 0)), (.int .i64 (.z 0)), (.int .i64 (.z 0)), (.int .i64 (.z 0)), (.int .i64 (.z 0)), (.int .i64 (.z 0)), (.int .i64 (.z 0)), (.int .i64 (.z 0)), (.int .i64 (.z 0)), (.int .i64 (.z 0)), (.int .i64 (.z 0)), (.int .i64 (.z 0)), (.int .i64 (.z 0)), (.int .i64 (.z 0)), (.int .i64 (.z 0)), (.int .i64 (.z 0)), (.int .i64 (.z 0)), (.int .i64 (.z 0)), (.int .i64 (.z 0)), (.int .i64 (.z 0)), (.int .i64 (.z 0))]), bytes := 504, eqs := some [false, false, false, false, false, false, false, false, false, false, false, false, false, false, false, false, false, false, false, false, false, false, false, false, false, false, false, false, false, false, false, false, false, false, false, false, false, false, false, false, false, false, false, false, false, false, false, false, false, false, false, false, false, false, false, false, false, false, false, false, false, false, false] } := tyMk (by kernel_rfl) (by kernel_rfl) (someEq (eqOK_of (by kernel_rfl) (by kernel_rfl)))
theorem ty80 : TyOK Try.prog 80 { d := .struct [(77, 0), (79, 3)], size := 66, zero := some (.agg [(.int .u32 (.z 0)), (.int .i32 (.z 0)), (.int .u32 (.z 0)), (.int .i64 (.z 0)), (.int .i64 (.z 0)), (.int .i64 (.z 0)), (.int .i64 (.z 0)), (.int .i64 (.z 0)), (.int .i64 (.z 0)), (.int .i64 (.z 0)), (.int .i64 (.z 0)), (.int .i64 (.z 0)), (.int .i64 (.z 0)), (.int .i64 (.z 0)), (.int .i64 (.z 0)), (.int .i64 (.z 0)), (.int .i64 (.z 0)), (.int .i64 (.z 0)), (.int .i64 (.z 0)), (.int .i64 (.z 0)), (.int .i64 (.z 0)), (.int .i64 (.z 0)), (.int .i64 (.z 0)), (.int .i64 (.z 0)), (.int .i64 (.z 0)), (.int .i64 (.z 0)), (.int .i64 (.z 0)), (.int .i64 (.z 0)), (.int .i64 (.z 0)), (.int .i64 (.z 0)), (.int .i64 (.z 0)), (.int .i64 (.z 0)), (.int .i64 (.z 0)), (.int .i64 (.z 0)), (.int .i64 (.z 0)), (.int .i64 (.z 0)), (.int .i64 (.z 0)), (.int .i64 (.z 0)), (.int .i64 (.z 0)), (.int .i64 (.z 0)), (.int .i64 (.z 0)), (.int .i64 (.z 0)), (.int .i64 (.z 0)), (.int .i64 (.z 0)), (.int .i64 (.z 0)), (.int .i64 (.z 0)), (.int .i64 (.z 0)), (.int .i64 (.z 0)), (.int .i64 (.z 0)), (.int .i64 (.z 0)), (.int .i64 (.z 0)), (.int .i64 (.z 0)), (.int .i64 (.z 0)), (.int .i64 (.z 0)), (.int .i64 (.z 0)), (.int .i64 (.z 0)), (.int .i64 (.z 0)), (.int .i64 (.z 0)), (.int .i64 (.z 0)), (.int .i64 (.z 0)), (.int .i64 (.z 0)), (.int .i64 (.z 0)), (.int .i64 (.z 0)), (.int .i64 (.z 0)), (.int .i64 (.z 0)), (.int .i64 (.z 0))]), bytes := 520, eqs := none } := tyMk (by kernel_rfl) (by kernel_rfl) noEq
theorem ty81 : TyOK Try.prog 81 { d := .struct [(77, 0), (79, 3)], size := 66, zero := some (.agg [(.int .u32 (.z 0)), (.int .i32 (.z 0)), (.int .u32 (.z 0)), (.int .i64 (.z 0)), (.int .i64 (.z 0)), (.int .i64 (.z 0)), (.int .i64 (.z 0)), (.int .i64 (.z 0)), (.int .i64 (.z 0)), (.int .i64 (.z 0)), (.int .i64 (.z 0)), (.int .i64 (.z 0)), (.int .i64 (.z 0)), (.int .i64 (.z 0)), (.int .i64 (.z 0)), (.int .i64 (.z 0)), (.int .i64 (.z 0)), (.int .i64 (.z 0)), (.int .i64 (.z 0)), (.int .i64 (.z 0)), (.int .i64 (.z 0)), (.int .i64 (.z 0)), (.int .i64 (.z 0)), (.int .i64 (.z 0)), (.int .i64 (.z 0)), (.int .i64 (.z 0)), (.int .i64 (.z 0)), (.int .i64 (.z 0)), (.int .i64 (.z 0)), (.int .i64 (.z 0)), (.int .i64 (.z 0)), (.int .i64 (.z 0)), (.int .i64 (.z 0)), (.int .i64 (.z 0)), (.int .i64 (.z 0)), (.int .i64 (.z 0)), (.int .i64 (.z 0)), (.int .i64 (.z 0)), (.int .i64 (.z 0)), (.int .i64 (.z 0)), (.int .i64 (.z 0)), (.int .i64 (.z 0)), (.int .i64 (.z 0)), (.int .i64 (.z 0)), (.int .i64 (.z 0)), (.int .i64 (.z 0)), (.int .i64 (.z 0)), (.int .i64 (.z 0)), (.int .i64 (.z 0)), (.int .i64 (.z 0)), (.int .i64 (.z 0)), (.int .i64 (.z 0)), (.int .i64 (.z 0)), (.int .i64 (.z 0)), (.int .i64 (.z 0)), (.int .i64 (.z 0)), (.int .i64 (.z 0)), (.int .i64 (.z 0)), (.int .i64 (.z 0)), (.int .i64 (.z 0)), (.int .i64 (.z 0)), (.int .i64 (.z 0)), (.int .i64 (.z 0)), (.int .i64 (.z 0)), (.int .i64 (.z 0)), (.int .i64 (.z 0))]), bytes := 520, eqs := none } := tyMk (by kernel_rfl) (by kernel_rfl) noEq
theorem ty82 : TyOK Try.prog 82 { d := .func, size := 1, zero := some .nilFunc, bytes := 8, eqs := none } := tyMk (by kernel_rfl) (by kernel_rfl) noEq
theorem ty83 : TyOK Try.prog 83 { d := .func, size := 1, zero := some .nilFunc, bytes := 8, eqs := none } := tyMk (by kernel_rfl) (by kernel_rfl) noEq
theorem ty84 : TyOK Try.prog 84 { d := .int .u64, size := 1, zero := some (.int .u64 (.z 0)), bytes := 8, eqs := none } := tyMk (by kernel_rfl) (by kernel_rfl) noEq
theorem ty85 : TyOK Try.prog 85 { d := .func, size := 1, zero := some .nilFunc, bytes := 8, eqs := none } := tyMk (by kernel_rfl) (by kernel_rfl) noEq
theorem ty86 : TyOK Try.prog 86 { d := .ptr 77, size := 1, zero := some .nilp, bytes := 8, eqs := none } := tyMk (by kernel_rfl) (by kernel_rfl) noEq
theorem ty87 : TyOK Try.prog 87 { d := .ptr 71, size := 1, zero := some .nilp, bytes := 8, eqs := none } := tyMk (by kernel_rfl) (by kernel_rfl) noEq
theorem ty88 : TyOK Try.prog 88 { d := .func, size := 1, zero := some .nilFunc, bytes := 8, eqs := none } := tyMk (by kernel_rfl) (by kernel_rfl) noEq
theorem ty89 : TyOK Try.prog 89 { d := .ptr 69, size := 1, zero := some .nilp, bytes := 8, eqs := none } := tyMk (by kernel_rfl) (by kernel_rfl) noEq
theorem ty90 : TyOK Try.prog 90 { d := .func, size := 1, zero := some .nilFunc, bytes := 8, eqs := none } := tyMk (by kernel_rfl) (by kernel_rfl) noEq
theorem ty91 : TyOK Try.prog 91 { d := .ptr 75, size := 1, zero := some .nilp, bytes := 8, eqs := none } := tyMk (by kernel_rfl) (by kernel_rfl) noEq
theorem ty92 : TyOK Try.prog 92 { d := .func, size := 1, zero := some .nilFunc, bytes := 8, eqs := none } := tyMk (by kernel_rfl) (by kernel_rfl) noEq
theorem ty93 : TyOK Try.prog 93 { d := .func, size := 1, zero := some .nilFunc, bytes := 8, eqs := none } := tyMk (by kernel_rfl) (by kernel_rfl) noEq
theorem ty94 : TyOK Try.prog 94 { d := .ptr 73, size := 1, zero := some .nilp, bytes := 8, eqs := none } := tyMk (by kernel_rfl) (by kernel_rfl) noEq
theorem ty95 : TyOK Try.prog 95 { d := .func, size := 1, zero := some .nilFunc, bytes := 8, eqs := none } := tyMk (by kernel_rfl) (by kernel_rfl) noEq
theorem ty96 : TyOK Try.prog 96 { d := .ptr 21, size := 1, zero := some .nilp, bytes := 8, eqs := none } := tyMk (by kernel_rfl) (by kernel_rfl) noEq
theorem ty97 : TyOK Try.prog 97 { d := .func, size := 1, zero := some .nilFunc, bytes := 8, eqs := none } := tyMk (by kernel_rfl) (by kernel_rfl) noEq
theorem ty99 : TyOK Try.prog 99 { d := .func, size := 1, zero := some .nilFunc, bytes := 8, eqs := none } := tyMk (by kernel_rfl) (by kernel_rfl) noEq
theorem ty100 : TyOK Try.prog 100 { d := .func, size := 1, zero := some .nilFunc, bytes := 8, eqs := none } := tyMk (by kernel_rfl) (by kernel_rfl) noEq
theorem ty101 : TyOK Try.prog 101 { d := .func, size := 1, zero := some .nilFunc, bytes := 8, eqs := none } := tyMk (by kernel_rfl) (by kernel_rfl) noEq
theorem ty102 : TyOK Try.prog 102 { d := .func, size := 1, zero := some .nilFunc, bytes := 8, eqs := none } := tyMk (by kernel_rfl) (by kernel_rfl) noEq
theorem ty103 : TyOK Try.prog 103 { d := .func, size := 1, zero := some .nilFunc, bytes := 8, eqs := none } := tyMk (by kernel_rfl) (by kernel_rfl) noEq
theorem ty104 : TyOK Try.prog 104 { d := .func, size := 1, zero := some .nilFunc, bytes := 8, eqs := none } := tyMk (by kernel_rfl) (by kernel_rfl) noEq
theorem ty107 : TyOK Try.prog 107 { d := .arr 0 16, size := 0, zero := some (.agg []), bytes := 0, eqs := none } := tyMk (by kernel_rfl) (by kernel_rfl) noEq
theorem ty108 : TyOK Try.prog 108 { d := .struct [(107, 0)], size := 0, zero := some (.agg []), bytes := 0, eqs := none } := tyMk (by kernel_rfl) (by kernel_rfl) noEq
theorem ty109 : TyOK Try.prog 109 { d := .struct [(107, 0)], size := 0, zero := some (.agg []), bytes := 0, eqs := none } := tyMk (by kernel_rfl) (by kernel_rfl) noEq
theorem ty110 : TyOK Try.prog 110 { d := .int .u8, size := 1, zero := some (.int .u8 (.z 0)), bytes := 1, eqs := none } := tyMk (by kernel_rfl) (by kernel_rfl) noEq
theorem ty111 : TyOK Try.prog 111 { d := .int .u8, size := 1, zero := some (.int .u8 (.z 0)), bytes := 1, eqs := none } := tyMk (by kernel_rfl) (by kernel_rfl) noEq
theorem ty112 : TyOK Try.prog 112 { d := .func, size := 1, zero := some .nilFunc, bytes := 8, eqs := none } := tyMk (by kernel_rfl) (by kernel_rfl) noEq
theorem ty113 : TyOK Try.prog 113 { d := .ptr 5, size := 1, zero := some .nilp, bytes := 8, eqs := none } := tyMk (by kernel_rfl) (by kernel_rfl) noEq
theorem ty114 : TyOK Try.prog 114 { d := .int .i32, size := 1, zero := some (.int .i32 (.z 0)), bytes := 4, eqs := none } := tyMk (by kernel_rfl) (by kernel_rfl) noEq
theorem ty115 : TyOK Try.prog 115 { d := .int .i32, size := 1, zero := some (.int .i32 (.z 0)), bytes := 4, eqs := none } := tyMk (by kernel_rfl) (by kernel_rfl) noEq
theorem ty116 : TyOK Try.prog 116 { d := .struct [(12, 0), (12, 1), (69, 2), (110, 3), (5, 4), (5, 5), (111, 6), (112, 7), (113, 8), (114, 9), (115, 10)], size := 11, zero := some (.agg [(.int .u64 (.z 0)), (.int .u64 (.z 0)), (.int .u32 (.z 0)), (.int .u8 (.z 0)), (.int .u8 (.z 0)), (.int .u8 (.z 0)), (.int .u8 (.z 0)), .nilFunc, .nilp, (.int .i32 (.z 0)), (.int .i32 (.z 0))]), bytes := 48, eqs := none } := tyMk (by kernel_rfl) (by kernel_rfl) noEq
theorem ty117 : TyOK Try.prog 117 { d := .struct [(12, 0), (12, 1), (69, 2), (110, 3), (5, 4), (5, 5), (111, 6), (112, 7), (113, 8), (114, 9), (115, 10)], size := 11, zero := some (.agg [(.int .u64 (.z 0)), (.int .u64 (.z 0)), (.int .u32 (.z 0)), (.int .u8 (.z 0)), (.int .u8 (.z 0)), (.int .u8 (.z 0)), (.int .u8 (.z 0)), .nilFunc, .nilp, (.int .i32 (.z 0)), (.int .i32 (.z 0))]), bytes := 48, eqs := none } := tyMk (by kernel_rfl) (by kernel_rfl) noEq
theorem tysOK : ∀ t ty, find t tys = some ty → TyOK Try.prog t ty :=
  tyCons ty0 <| tyCons ty1 <| tyCons ty2 <| tyCons ty3 <| tyCons ty4 <| tyCons ty5 <| tyCons ty6 <| tyCons ty7 <| tyCons ty8 <| tyCons ty12 <| tyCons ty15 <| tyCons ty16 <| tyCons ty17 <| tyCons ty18 <| tyCons ty19 <| tyCons ty20 <| tyCons ty21 <| tyCons ty22 <| tyCons ty23 <| tyCons ty24 <| tyCons ty25 <| tyCons ty26 <| tyCons ty27 <| tyCons ty28 <| tyCons ty29 <| tyCons ty30 <| tyCons ty31 <| tyCons ty32 <| tyCons ty33 <| tyCons ty34 <| tyCons ty35 <| tyCons ty36 <| tyCons ty37 <| tyCons ty38 <| tyCons ty39 <| tyCons ty40 <| tyCons ty41 <| tyCons ty42 <| tyCons ty43 <| tyCons ty44 <| tyCons ty45 <| tyCons ty46 <| tyCons ty47 <| tyCons ty48 <| tyCons ty49 <| tyCons ty50 <| tyCons ty51 <| tyCons ty52 <| tyCons ty53 <| tyCons ty54 <| tyCons ty55 <| tyCons ty56 <| tyCons ty57 <| tyCons ty58 <| tyCons ty59 <| tyCons ty60 <| tyCons ty61 <| tyCons ty62 <| tyCons ty63 <| tyCons ty64 <| tyCons ty65 <| tyCons ty66 <| tyCons ty67 <| tyCons ty68 <| tyCons ty69 <| tyCons ty70 <| tyCons ty71 <| tyCons ty72 <| tyCons ty73 <| tyCons ty74 <| tyCons ty75 <| tyCons ty76 <| tyCons ty77 <| tyCons ty78 <| tyCons ty79 <| tyCons ty80 <| tyCons ty81 <| tyCons ty82 <| tyCons ty83 <| tyCons ty84 <| tyCons ty85 <| tyCons ty86 <| tyCons ty87 <| tyCons ty88 <| tyCons ty89 <| tyCons ty90 <| tyCons ty91 <| tyCons ty92 <| tyCons ty93 <| tyCons ty94 <| tyCons ty95 <| tyCons ty96 <| tyCons ty97 <| tyCons ty99 <| tyCons ty100 <| tyCons ty101 <| tyCons ty102 <| tyCons ty103 <| tyCons ty104 <| tyCons ty107 <| tyCons ty108 <| tyCons ty109 <| tyCons ty110 <| tyCons ty111 <| tyCons ty112 <| tyCons ty113 <| tyCons ty114 <| tyCons ty115 <| tyCons ty116 <| tyCons ty117 <| fun _ _ h => tyNil h
theorem fnsOK : ∀ f fn, find f fns = some fn → Try.prog.funcs[f]? = some fn ∧ (fn.name == "runtime.NumGoroutine") = false :=
  fnCons Try.func2 (by kernel_rfl) <| fnCons Try.func3 (by kernel_rfl) <| fnCons Try.func4 (by kernel_rfl) <| fnCons Try.func5 (by kernel_rfl) <| fnCons Try.func6 (by kernel_rfl) <| fnCons Try.func7 (by kernel_rfl) <| fnCons Try.func8 (by kernel_rfl) <| fnCons Try.func9 (by kernel_rfl) <| fnCons Try.func10 (by kernel_rfl) <| fnCons Try.func11 (by kernel_rfl) <| fnCons Try.func12 (by kernel_rfl) <| fnCons Try.func13 (by kernel_rfl) <| fnCons Try.func14 (by kernel_rfl) <| fnCons Try.func15 (by kernel_rfl) <| fnCons Try.func16 (by kernel_rfl) <| fnCons Try.func17 (by kernel_rfl) <| fnCons Try.func18 (by kernel_rfl) <| fnCons Try.func19 (by kernel_rfl) <| fnCons Try.func20 (by kernel_rfl) <| fnCons Try.func21 (by kernel_rfl) <| fnCons Try.func22 (by kernel_rfl) <| fnCons Try.func23 (by kernel_rfl) <| fnCons Try.func24 (by kernel_rfl) <| fnCons Try.func25 (by kernel_rfl) <| fnCons Try.func26 (by kernel_rfl) <| fnCons Try.func27 (by kernel_rfl) <| fnCons Try.func28 (by kernel_rfl) <| fnCons Try.func30 (by kernel_rfl) <| fnCons Try.func31 (by kernel_rfl) <| fnCons Try.func32 (by kernel_rfl) <| fnCons Try.func33 (by kernel_rfl) <| fnCons Try.func34 (by kernel_rfl) <| fnCons Try.func36 (by kernel_rfl) <| fnCons Try.func41 (by kernel_rfl) <| fnCons Try.func44 (by kernel_rfl) <| fnCons Try.func67 (by kernel_rfl) <| fnCons Try.func68 (by kernel_rfl) <| fnCons Try.func69 (by kernel_rfl) <| fnCons Try.func70 (by kernel_rfl) <| fnCons Try.func71 (by kernel_rfl) <| fnCons Try.func72 (by kernel_rfl) <| fnCons Try.func73 (by kernel_rfl) <| fnCons Try.func74 (by kernel_rfl) <| fnCons Try.func75 (by kernel_rfl) <| fnCons Try.func76 (by kernel_rfl) <| fun _ _ h => fnNil h
def mets : List (Nat × String × Nat) := [(61, "datum/base.ranges", 67), (61, "datum/base.reach", 68), (61, "datum/base.scale", 69), (61, "datum/base.steps", 70), (62, "datum/base.ranges", 71), (62, "datum/base.reach", 72), (62, "datum/base.scale", 73), (62, "datum/base.steps", 74)]
theorem met0 : MetOK Try.prog 61 "datum/base.ranges" 67 := metMk (d := .struct [(27, 0)]) (by kernel_rfl) (by kernel_rfl) rfl
theorem met1 : MetOK Try.prog 61 "datum/base.reach" 68 := metMk (d := .struct [(27, 0)]) (by kernel_rfl) (by kernel_rfl) rfl
theorem met2 : MetOK Try.prog 61 "datum/base.scale" 69 := metMk (d := .struct [(27, 0)]) (by kernel_rfl) (by kernel_rfl) rfl
theorem met3 : MetOK Try.prog 61 "datum/base.steps" 70 := metMk (d := .struct [(27, 0)]) (by kernel_rfl) (by kernel_rfl) rfl
theorem met4 : MetOK Try.prog 62 "datum/base.ranges" 71 := metMk (d := .struct [(27, 0)]) (by kernel_rfl) (by kernel_rfl) rfl
theorem met5 : MetOK Try.prog 62 "datum/base.reach" 72 := metMk (d := .struct [(27, 0)]) (by kernel_rfl) (by kernel_rfl) rfl
theorem met6 : MetOK Try.prog 62 "datum/base.scale" 73 := metMk (d := .struct [(27, 0)]) (by kernel_rfl) (by kernel_rfl) rfl
theorem met7 : MetOK Try.prog 62 "datum/base.steps" 74 := metMk (d := .struct [(27, 0)]) (by kernel_rfl) (by kernel_rfl) rfl
theorem metsOK : ∀ t m f, findM t m mets = some f → MetOK Try.prog t m f :=
  metCons met0 <| metCons met1 <| metCons met2 <| metCons met3 <| metCons met4 <| metCons met5 <| metCons met6 <| metCons met7 <| fun _ _ _ h => metNil h
theorem mixedOK : Try.prog.follows .mixedOrders = true := by kernel_rfl

/-- an int; a word of 64 bits; a number of 128 -/
def IsI (x : Int) : Prop := -9223372036854775808 ≤ x ∧ x ≤ 9223372036854775807
def IsU (x : Int) : Prop := 0 ≤ x ∧ x ≤ 18446744073709551615
def val (h l : Int) : Int := h * 18446744073709551616 + l
end Go.Proofs.Ytjbokdekofiihaa.X
