/-
  The contract of wide.Times (a product of two numbers of 128 bits), for every input in range.
-/
import Derived.Test.YtehoiibnemjkaaaDoorSxWide
namespace Go.Proofs.YtehoiibnemjkaaaDoor.X
open Go Go.SX Go.RowKit
set_option linter.unusedVariables false
set_option linter.unusedSimpArgs false


def times_sp : SpecSh := { args := [(.agg [(.int .u64 (.z 0)), (.int .u64 (.z 0))]), (.agg [(.int .u64 (.z 0)), (.int .u64 (.z 0))])], res := (.tup [(.agg [(.int .u64 (.z 0)), (.int .u64 (.z 0))]), (.bool .f)]), sh := [.i (some (0, 18446744073709551615)), .i (some (0, 18446744073709551615)), .b] }
set_option maxRecDepth 100000 in
def times_tree : Tree :=
.call 25 [.i (some (0, 18446744073709551615)), .i (some (0, 18446744073709551615))] [.i (.v 1), .i (.v 3)] <|
.ite (.cmp .lt (.z 0) (.v 0)) (.call 25 [.i (some (0, 18446744073709551615)), .i (some (0, 18446744073709551615))] [.i (.v 0), .i (.v 3)] <|
.call 25 [.i (some (0, 18446744073709551615)), .i (some (0, 18446744073709551615))] [.i (.v 1), .i (.v 2)] <|
.call 38 [.i (some (0, 18446744073709551615)), .i (some (0, 18446744073709551615))] [.i (.v 4), .i (.v 7), .i (.z 0)] <|
.ite (.cmp .lt (.z 0) (.v 2)) (.call 38 [.i (some (0, 18446744073709551615)), .i (some (0, 18446744073709551615))] [.i (.v 10), .i (.v 9), .i (.z 0)] <|
.ret (.tup [(.agg [(.int .u64 (.v 12)), (.int .u64 (.v 5))]), (.bool .t)])) <|
.ite (.cmp .lt (.z 0) (.v 11)) (.call 38 [.i (some (0, 18446744073709551615)), .i (some (0, 18446744073709551615))] [.i (.v 10), .i (.v 9), .i (.z 0)] <|
.ret (.tup [(.agg [(.int .u64 (.v 12)), (.int .u64 (.v 5))]), (.bool .t)])) <|
.call 38 [.i (some (0, 18446744073709551615)), .i (some (0, 18446744073709551615))] [.i (.v 10), .i (.v 9), .i (.z 0)] <|
.ite (.cmp .lt (.z 0) (.v 6)) (.ret (.tup [(.agg [(.int .u64 (.v 12)), (.int .u64 (.v 5))]), (.bool .t)])) <|
.ite (.cmp .lt (.z 0) (.v 13)) (.ret (.tup [(.agg [(.int .u64 (.v 12)), (.int .u64 (.v 5))]), (.bool .t)])) <|
.ret (.tup [(.agg [(.int .u64 (.v 12)), (.int .u64 (.v 5))]), (.bool (.cmp .lt (.z 0) (.v 8)))])) <|
.call 25 [.i (some (0, 18446744073709551615)), .i (some (0, 18446744073709551615))] [.i (.v 0), .i (.v 3)] <|
.call 25 [.i (some (0, 18446744073709551615)), .i (some (0, 18446744073709551615))] [.i (.v 1), .i (.v 2)] <|
.call 38 [.i (some (0, 18446744073709551615)), .i (some (0, 18446744073709551615))] [.i (.v 4), .i (.v 7), .i (.z 0)] <|
.ite (.cmp .lt (.z 0) (.v 11)) (.call 38 [.i (some (0, 18446744073709551615)), .i (some (0, 18446744073709551615))] [.i (.v 10), .i (.v 9), .i (.z 0)] <|
.ret (.tup [(.agg [(.int .u64 (.v 12)), (.int .u64 (.v 5))]), (.bool .t)])) <|
.call 38 [.i (some (0, 18446744073709551615)), .i (some (0, 18446744073709551615))] [.i (.v 10), .i (.v 9), .i (.z 0)] <|
.ite (.cmp .lt (.z 0) (.v 6)) (.ret (.tup [(.agg [(.int .u64 (.v 12)), (.int .u64 (.v 5))]), (.bool .t)])) <|
.ite (.cmp .lt (.z 0) (.v 13)) (.ret (.tup [(.agg [(.int .u64 (.v 12)), (.int .u64 (.v 5))]), (.bool .t)])) <|
.ret (.tup [(.agg [(.int .u64 (.v 12)), (.int .u64 (.v 5))]), (.bool (.cmp .lt (.z 0) (.v 8)))])
noncomputable def times_cx : Ctx := { tys := tys, fns := fns, mets := mets, sps := [(25, mul_sp), (38, add64_sp)], anns := [], trys := [] }
def times_ivs : List (Option (Int × Int)) := [some (0, 18446744073709551615), some (0, 18446744073709551615), some (0, 18446744073709551615), some (0, 18446744073709551615)]
set_option maxRecDepth 100000 in
theorem times_walk : runFn times_cx 3000 28 Tryd.f28 times_sp.args times_ivs = times_tree := by kernel_rfl
noncomputable def times_M : Nat → SpecSem
  | 25 => mul_sem
  | 38 => add64_sem
  | _ => noSem
theorem times_M25 : times_M 25 = mul_sem := rfl
theorem times_M38 : times_M 38 = add64_sem := rfl
theorem times_cxok : CxOK Tryd.prog times_cx times_M := ⟨tysOK, fnsOK, spCons mul_ok <| spCons add64_ok <| fun _ _ h => spNil h, mixedOK, fun _ _ h => trNil h, fun _ _ h => atNil h, metsOK⟩

def times_sem : SpecSem := { pre := fun cs => match cs with | [.i a, .i b, .i c, .i d] => IsU a ∧ IsU b ∧ IsU c ∧ IsU d | _ => False, out := fun cs => match cs with | [.i a, .i b, .i c, .i d] => [.i (val a b * val c d / 18446744073709551616 % 18446744073709551616), .i (val a b * val c d % 18446744073709551616), .b (decide (340282366920938463463374607431768211456 ≤ val a b * val c d))] | _ => [] }
theorem times_ok : SpecOK Tryd.prog 28 times_sp times_sem := by
  refine spec_of_tree times_cxok Tryd.func28 (by kernel_rfl) (by kernel_rfl) times_walk rfl ?_
  intro cs hpre
  match cs, hpre with
  | [.i a, .i b, .i c, .i d], ⟨⟨h1, h2⟩, ⟨h3, h4⟩, ⟨h5, h6⟩, ⟨h7, h8⟩⟩ =>
    refine ⟨rfl, IvsB.ok (by simp only [times_ivs, IvsB, Cv.int, and_true]; omega), ?_, ?_⟩
    · simp only [times_sem, times_sp, Fits, and_true]
      omega
    · simp only [times_sem, times_sp, IsU, times_tree, times_M25, mul_sem, times_M38, add64_sem, Tree.den, LE.den, Cv.list, placeA, List.getElem?_cons_zero, List.getElem?_cons_succ, IE.den, BE.den, At.den, CA.den, Env.get, Cv.int, Cv.bool, List.cons_append, List.nil_append, List.map_cons, List.map_nil, bindRes, bindEq, Fits, SV.den, denL, place, placeL, eq_t, eq_f, lt_t, lt_f, le_t, le_f, beq_iff_eq, beq_eq_false_iff_ne, ne_eq, reduceCtorEq, b_dec, decide_eq_true_eq, decide_eq_false_iff_not, Bool.not_eq_false', Bool.or_eq_true, Bool.or_eq_false_iff, Bool.and_eq_false_iff, true_iff, false_iff, Bool.false_eq_true, Bool.not_eq_true', Bool.and_eq_true, Bool.not_true, Bool.not_false, List.cons.injEq, Cv.i.injEq, Cv.b.injEq, and_true, true_and, agg_inj, tup_inj, Value.int.injEq, Value.bool.injEq]
      have e : val a b * val c d = a * c * 340282366920938463463374607431768211456 + (a * d + b * c) * 18446744073709551616 + b * d := by unfold val; grind
      have g1 : 0 ≤ a * c := Int.mul_nonneg h1 h5
      have g2 : 0 ≤ a * d := Int.mul_nonneg h1 h7
      have g3 : 0 ≤ b * c := Int.mul_nonneg h3 h5
      have g4 : 0 ≤ b * d := Int.mul_nonneg h3 h7
      have g5 : a = 0 → a * c = 0 := fun h => by rw [h, Int.zero_mul]
      have g6 : c = 0 → a * c = 0 := fun h => by rw [h, Int.mul_zero]
      have g7 : a = 0 → a * d = 0 := fun h => by rw [h, Int.zero_mul]
      have g8 : c = 0 → b * c = 0 := fun h => by rw [h, Int.mul_zero]
      have g9 : 0 < a → 0 < c → 0 < a * c := Int.mul_pos
      rw [e]
      generalize a * c = ac at *
      generalize a * d = ad at *
      generalize b * c = bc at *
      generalize b * d = bd at *
      (repeat' (first | intro _ | refine And.intro ?_ ?_)) <;> omega
end Go.Proofs.YtehoiibnemjkaaaDoor.X
