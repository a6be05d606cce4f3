/-
  The contracts of the reference's sizes and products of ints (datumref04), for every input in range.
-/
import Derived.Test.YtehoiibnemjkaaaDoorSxAbs
import Derived.Test.YtehoiibnemjkaaaDoorSxRefTimes
namespace Go.Proofs.YtehoiibnemjkaaaDoor.X
open Go Go.SX Go.RowKit
set_option linter.unusedVariables false
set_option linter.unusedSimpArgs false


theorem cltEq {a b c d : Int} : (Cmp.lt.den a b = Cmp.lt.den c d) ↔ (a < b ↔ c < d) := by simp [Cmp.den]
theorem r4val0 (x : Int) : val 0 x = x := by unfold val; omega
def r4size_sp : SpecSh := { args := [(.int .i64 (.z 0))], res := (.agg [(.int .u64 (.z 0)), (.int .u64 (.z 0))]), sh := [.i (some (0, 18446744073709551615)), .i (some (0, 18446744073709551615))] }
set_option maxRecDepth 100000 in
def r4size_tree : Tree :=
.ite (.cmp .lt (.v 0) (.z 0)) (.lett (.add (.v 0) (.z 1)) <|
.lett (.sub (.z 0) (.v 1)) <|
.call 39 [.i (some (0, 18446744073709551615)), .i (some (0, 18446744073709551615)), .b] [.i (.z 0), .i (.v 2), .i (.z 0), .i (.z 1)] <|
.ret (.agg [(.int .u64 (.v 3)), (.int .u64 (.v 4))])) <|
.ret (.agg [(.int .u64 (.z 0)), (.int .u64 (.v 0))])
noncomputable def r4size_cx : Ctx := { tys := tys, fns := fns, mets := mets, sps := [(39, radd_sp)], anns := [], trys := [] }
def r4size_ivs : List (Option (Int × Int)) := [some ((-9223372036854775808), 9223372036854775807)]
set_option maxRecDepth 100000 in
theorem r4size_walk : runFn r4size_cx 3000 33 Tryd.f33 r4size_sp.args r4size_ivs = r4size_tree := by kernel_rfl
noncomputable def r4size_M : Nat → SpecSem
  | 39 => radd_sem
  | _ => noSem
theorem r4size_M39 : r4size_M 39 = radd_sem := rfl
theorem r4size_cxok : CxOK Tryd.prog r4size_cx r4size_M := ⟨tysOK, fnsOK, spCons radd_ok <| fun _ _ h => spNil h, mixedOK, fun _ _ h => trNil h, fun _ _ h => atNil h, metsOK⟩

def r4size_sem : SpecSem := { pre := fun cs => match cs with | [.i a] => IsI a | _ => False, out := fun cs => match cs with | [.i a] => [.i 0, .i (absZ a)] | _ => [] }
theorem r4size_ok : SpecOK Tryd.prog 33 r4size_sp r4size_sem := by
  refine spec_of_tree r4size_cxok Tryd.func33 (by kernel_rfl) (by kernel_rfl) r4size_walk rfl ?_
  intro cs hpre
  match cs, hpre with
  | [.i a], ⟨h1, h2⟩ =>
    have z := absZ_le (a := a) ⟨h1, h2⟩
    refine ⟨rfl, IvsB.ok (by simp only [r4size_ivs, IvsB, Cv.int, and_true]; omega), ?_, ?_⟩
    · simp only [r4size_sem, r4size_sp, Fits, and_true]; omega
    · simp only [r4size_sem, r4size_sp, IsU, absZ, wu64_mod, r4val0, r4size_tree, r4size_M39, radd_sem, Tree.den, LE.den, Cv.list, placeA, List.getElem?_cons_zero, List.getElem?_cons_succ, IE.den, BE.den, At.den, CA.den, Env.get, Cv.int, Cv.bool, List.cons_append, List.nil_append, List.map_cons, List.map_nil, bindRes, bindEq, Fits, SV.den, denL, place, placeL, eq_t, eq_f, lt_t, lt_f, le_t, le_f, beq_iff_eq, beq_eq_false_iff_ne, ne_eq, reduceCtorEq, b_dec, decide_eq_true_eq, decide_eq_false_iff_not, Bool.not_eq_false', Bool.or_eq_true, Bool.or_eq_false_iff, Bool.and_eq_false_iff, true_iff, false_iff, Bool.false_eq_true, Bool.not_eq_true', Bool.and_eq_true, Bool.not_true, Bool.not_false, List.cons.injEq, Cv.i.injEq, Cv.b.injEq, and_true, true_and, agg_inj, tup_inj, Value.int.injEq, Value.bool.injEq]
      (repeat' (first | intro _ | refine And.intro ?_ ?_ | exact trivial)) <;> omega
theorem mul_neg_iff {a b : Int} : a * b < 0 ↔ (a < 0 ∧ 0 < b ∨ 0 < a ∧ b < 0) := by
  rcases Int.lt_trichotomy a 0 with h | h | h <;> rcases Int.lt_trichotomy b 0 with g | g | g
  · have := Int.mul_pos_of_neg_of_neg h g; omega
  · subst g; simp
  · have := Int.mul_neg_of_neg_of_pos h g; omega
  · subst h; simp
  · subst h; simp
  · subst h; simp
  · have := Int.mul_neg_of_pos_of_neg h g; omega
  · subst g; simp
  · have := Int.mul_pos h g; omega
theorem abs_mul_zero {a b : Int} : absZ a * absZ b = 0 ↔ (a = 0 ∨ b = 0) := by
  have e : ∀ x : Int, absZ x = 0 ↔ x = 0 := fun x => by unfold absZ; split <;> omega
  rw [Int.mul_eq_zero, e, e]
theorem r4abs {a b : Int} (ha : IsI a) (hb : IsI b) : 0 ≤ absZ a * absZ b ∧ absZ a * absZ b ≤ 85070591730234615865843651857942052864 := by
  obtain ⟨h1, h2⟩ := absZ_le ha
  obtain ⟨h3, h4⟩ := absZ_le hb
  exact ⟨Int.mul_nonneg h1 h3, Int.mul_le_mul h2 h4 h3 (by omega)⟩
def r4prod_sp : SpecSh := { args := [(.int .i64 (.z 0)), (.int .i64 (.z 0))], res := (.agg [(.bool .f), (.int .u64 (.z 0)), (.int .u64 (.z 0))]), sh := [.b, .i (some (0, 18446744073709551615)), .i (some (0, 18446744073709551615))] }
set_option maxRecDepth 100000 in
def r4prod_tree : Tree :=
.call 33 [.i (some (0, 18446744073709551615)), .i (some (0, 18446744073709551615))] [.i (.v 0)] <|
.call 33 [.i (some (0, 18446744073709551615)), .i (some (0, 18446744073709551615))] [.i (.v 1)] <|
.call 21 [.i (some (0, 18446744073709551615)), .i (some (0, 18446744073709551615)), .b] [.i (.v 2), .i (.v 3), .i (.v 4), .i (.v 5)] <|
.ite (.not (.eqv (.cmp .lt (.v 0) (.z 0)) (.cmp .lt (.v 1) (.z 0)))) (.ret (.agg [(.bool (.not (.and (.cmp .eq (.v 6) (.z 0)) (.cmp .eq (.v 7) (.z 0))))), (.int .u64 (.v 6)), (.int .u64 (.v 7))])) <|
.ret (.agg [(.bool .f), (.int .u64 (.v 6)), (.int .u64 (.v 7))])
noncomputable def r4prod_cx : Ctx := { tys := tys, fns := fns, mets := mets, sps := [(33, r4size_sp), (21, rtimes_sp)], anns := [], trys := [] }
def r4prod_ivs : List (Option (Int × Int)) := [some ((-9223372036854775808), 9223372036854775807), some ((-9223372036854775808), 9223372036854775807)]
set_option maxRecDepth 100000 in
theorem r4prod_walk : runFn r4prod_cx 3000 20 Tryd.f20 r4prod_sp.args r4prod_ivs = r4prod_tree := by kernel_rfl
noncomputable def r4prod_M : Nat → SpecSem
  | 33 => r4size_sem
  | 21 => rtimes_sem
  | _ => noSem
theorem r4prod_M33 : r4prod_M 33 = r4size_sem := rfl
theorem r4prod_M21 : r4prod_M 21 = rtimes_sem := rfl
theorem r4prod_cxok : CxOK Tryd.prog r4prod_cx r4prod_M := ⟨tysOK, fnsOK, spCons r4size_ok <| spCons rtimes_ok <| fun _ _ h => spNil h, mixedOK, fun _ _ h => trNil h, fun _ _ h => atNil h, metsOK⟩

def r4prod_sem : SpecSem := { pre := fun cs => match cs with | [.i a, .i b] => IsI a ∧ IsI b | _ => False, out := fun cs => match cs with | [.i a, .i b] => [.b (decide (a * b < 0)), .i (absZ a * absZ b / 18446744073709551616), .i (absZ a * absZ b % 18446744073709551616)] | _ => [] }
theorem r4prod_ok : SpecOK Tryd.prog 20 r4prod_sp r4prod_sem := by
  refine spec_of_tree r4prod_cxok Tryd.func20 (by kernel_rfl) (by kernel_rfl) r4prod_walk rfl ?_
  intro cs hpre
  match cs, hpre with
  | [.i a, .i b], ⟨⟨h1, h2⟩, ⟨h3, h4⟩⟩ =>
    have hp := r4abs (a := a) (b := b) ⟨h1, h2⟩ ⟨h3, h4⟩
    obtain ⟨z1, z2⟩ := absZ_le (a := a) ⟨h1, h2⟩
    obtain ⟨z3, z4⟩ := absZ_le (a := b) ⟨h3, h4⟩
    refine ⟨rfl, IvsB.ok (by simp only [r4prod_ivs, IvsB, Cv.int, and_true]; omega), ?_, ?_⟩
    · simp only [r4prod_sem, r4prod_sp, Fits, and_true]; omega
    · simp only [r4prod_sem, r4size_sem, r4prod_sp, IsU, IsI, r4prod_tree, r4prod_M33, r4size_sem, r4prod_M21, rtimes_sem, Tree.den, LE.den, Cv.list, placeA, List.getElem?_cons_zero, List.getElem?_cons_succ, IE.den, BE.den, At.den, CA.den, Env.get, Cv.int, Cv.bool, List.cons_append, List.nil_append, List.map_cons, List.map_nil, bindRes, bindEq, Fits, SV.den, denL, place, placeL, eq_t, eq_f, lt_t, lt_f, le_t, le_f, beq_iff_eq, beq_eq_false_iff_ne, ne_eq, reduceCtorEq, b_dec, decide_eq_true_eq, decide_eq_false_iff_not, Bool.not_eq_false', Bool.or_eq_true, Bool.or_eq_false_iff, Bool.and_eq_false_iff, true_iff, false_iff, Bool.false_eq_true, Bool.not_eq_true', Bool.and_eq_true, Bool.not_true, Bool.not_false, List.cons.injEq, Cv.i.injEq, Cv.b.injEq, and_true, true_and, agg_inj, tup_inj, Value.int.injEq, Value.bool.injEq]
      have hz := abs_mul_zero (a := a) (b := b)
      have hs := mul_neg_iff (a := a) (b := b)
      refine ⟨by omega, ?_⟩
      intro x hx _ _ y hy _ _
      refine ⟨by omega, ?_⟩
      intro u hu _ _ v hv _ _
      subst hx hy hu hv
      simp only [r4val0, cltEq]
      generalize absZ a * absZ b = P at *
      generalize a * b = Q at *
      (repeat' (first | intro _ | refine And.intro ?_ ?_ | exact trivial)) <;> omega
end Go.Proofs.YtehoiibnemjkaaaDoor.X
