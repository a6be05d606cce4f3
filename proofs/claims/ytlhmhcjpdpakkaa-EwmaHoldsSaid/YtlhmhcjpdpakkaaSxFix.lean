/-
  The contracts of fix.Add, fix.Sub and fix.Mul, for every int.
-/
import Derived.Test.YtlhmhcjpdpakkaaSxTry
namespace Go.Proofs.Ytlhmhcjpdpakkaa.X
open Go Go.SX Go.RowKit
set_option linter.unusedVariables false
set_option linter.unusedSimpArgs false


instance decI (x : Int) : Decidable (IsI x) := by unfold IsI; exact inferInstance
theorem wi64 (x : Int) : IntKind.i64.wrap x = (x + 9223372036854775808) % 18446744073709551616 - 9223372036854775808 := by
  simp only [IntKind.wrap, IntKind.bits, IntKind.signed, Bool.true_and, decide_eq_true_eq, ge_iff_le, Int.reducePow, Nat.reduceSub]
  split <;> omega
theorem beq_dec {p q : Prop} [Decidable p] [Decidable q] : (decide p == decide q) = decide (p ↔ q) := by
  by_cases hp : p <;> by_cases hq : q <;> simp [hp, hq]
/-- an int, or 0 and ErrOver -/
def tell (x : Int) : List Cv := [.i (if IsI x then x else 0), .i (if IsI x then 0 else 5)]
theorem tell_fits (x : Int) : (-9223372036854775808 ≤ (if IsI x then x else 0) ∧ (if IsI x then x else 0) ≤ 9223372036854775807) ∧ (-9223372036854775808 ≤ (if IsI x then 0 else 5 : Int) ∧ (if IsI x then 0 else 5 : Int) ≤ 9223372036854775807) := by
  by_cases h : IsI x
  · simp only [if_pos h]; exact ⟨h, by omega⟩
  · simp only [if_neg h]; omega
def fadd_sp : SpecSh := { args := [(.int .i64 (.z 0)), (.int .i64 (.z 0))], res := (.tup [(.int .i64 (.z 0)), (.int .i64 (.z 0))]), sh := [.i (some ((-9223372036854775808), 9223372036854775807)), .i (some ((-9223372036854775808), 9223372036854775807))] }
set_option maxRecDepth 100000 in
def fadd_tree : Tree :=
.lett (.addw .i64 (.v 0) (.v 1)) <|
.ite (.eqv (.cmp .lt (.v 0) (.v 2)) (.cmp .lt (.z 0) (.v 1))) (.ret (.tup [(.int .i64 (.v 2)), (.int .i64 (.z 0))])) <|
.ret (.tup [(.int .i64 (.z 0)), (.int .i64 (.z 5))])
noncomputable def fadd_cx : Ctx := { tys := tys, fns := fns, sps := [], anns := [], trys := [(91, try_try)] }
def fadd_ivs : List (Option (Int × Int)) := [some ((-9223372036854775808), 9223372036854775807), some ((-9223372036854775808), 9223372036854775807)]
set_option maxRecDepth 100000 in
theorem fadd_walk : runFn fadd_cx 3000 25 Try.f25 fadd_sp.args fadd_ivs = fadd_tree := by kernel_rfl
noncomputable def fadd_M : Nat → SpecSem
  | _ => noSem
theorem fadd_cxok : CxOK Try.prog fadd_cx fadd_M := ⟨tysOK, fnsOK, fun _ _ h => spNil h, mixedOK, trCons try_ok <| fun _ _ h => trNil h⟩

def fadd_sem : SpecSem := { pre := fun cs => match cs with | [.i a, .i b] => IsI a ∧ IsI b | _ => False, out := fun cs => match cs with | [.i a, .i b] => tell (a + b) | _ => [] }
theorem fadd_ok : SpecOK Try.prog 25 fadd_sp fadd_sem := by
  refine spec_of_tree fadd_cxok Try.func25 (by kernel_rfl) (by kernel_rfl) fadd_walk rfl ?_
  intro cs hpre
  match cs, hpre with
  | [.i a, .i b], ⟨⟨h1, h2⟩, ⟨h3, h4⟩⟩ =>
    refine ⟨rfl, IvsB.ok (by simp only [fadd_ivs, IvsB, Cv.int, and_true]; omega), ?_, ?_⟩
    · simp only [fadd_sem, fadd_sp, tell, Fits, and_true]; have := tell_fits (a + b); omega
    · simp only [fadd_sem, fadd_sp, tell, Cmp.den, beq_dec, fadd_tree, Tree.den, LE.den, Cv.list, placeA, List.getElem?_cons_zero, List.getElem?_cons_succ, IE.den, BE.den, At.den, CA.den, Env.get, Cv.int, Cv.bool, List.cons_append, List.nil_append, List.map_cons, List.map_nil, bindRes, bindEq, Fits, SV.den, denL, place, placeL, eq_t, eq_f, lt_t, lt_f, le_t, le_f, beq_iff_eq, beq_eq_false_iff_ne, ne_eq, reduceCtorEq, b_dec, decide_eq_true_eq, decide_eq_false_iff_not, Bool.not_eq_false', Bool.or_eq_true, Bool.or_eq_false_iff, Bool.and_eq_false_iff, true_iff, false_iff, Bool.false_eq_true, Bool.not_eq_true', Bool.and_eq_true, Bool.not_true, Bool.not_false, List.cons.injEq, Cv.i.injEq, Cv.b.injEq, and_true, true_and, agg_inj, tup_inj, Value.int.injEq, Value.bool.injEq]
      simp only [IsI, wi64]
      (repeat' (first | intro _ | refine And.intro ?_ ?_ | exact trivial)) <;> (try split) <;> omega
def fsub_sp : SpecSh := { args := [(.int .i64 (.z 0)), (.int .i64 (.z 0))], res := (.tup [(.int .i64 (.z 0)), (.int .i64 (.z 0))]), sh := [.i (some ((-9223372036854775808), 9223372036854775807)), .i (some ((-9223372036854775808), 9223372036854775807))] }
set_option maxRecDepth 100000 in
def fsub_tree : Tree :=
.lett (.subw .i64 (.v 0) (.v 1)) <|
.ite (.eqv (.cmp .lt (.v 2) (.v 0)) (.cmp .lt (.z 0) (.v 1))) (.ret (.tup [(.int .i64 (.v 2)), (.int .i64 (.z 0))])) <|
.ret (.tup [(.int .i64 (.z 0)), (.int .i64 (.z 5))])
noncomputable def fsub_cx : Ctx := { tys := tys, fns := fns, sps := [], anns := [], trys := [(91, try_try)] }
def fsub_ivs : List (Option (Int × Int)) := [some ((-9223372036854775808), 9223372036854775807), some ((-9223372036854775808), 9223372036854775807)]
set_option maxRecDepth 100000 in
theorem fsub_walk : runFn fsub_cx 3000 26 Try.f26 fsub_sp.args fsub_ivs = fsub_tree := by kernel_rfl
noncomputable def fsub_M : Nat → SpecSem
  | _ => noSem
theorem fsub_cxok : CxOK Try.prog fsub_cx fsub_M := ⟨tysOK, fnsOK, fun _ _ h => spNil h, mixedOK, trCons try_ok <| fun _ _ h => trNil h⟩

def fsub_sem : SpecSem := { pre := fun cs => match cs with | [.i a, .i b] => IsI a ∧ IsI b | _ => False, out := fun cs => match cs with | [.i a, .i b] => tell (a - b) | _ => [] }
theorem fsub_ok : SpecOK Try.prog 26 fsub_sp fsub_sem := by
  refine spec_of_tree fsub_cxok Try.func26 (by kernel_rfl) (by kernel_rfl) fsub_walk rfl ?_
  intro cs hpre
  match cs, hpre with
  | [.i a, .i b], ⟨⟨h1, h2⟩, ⟨h3, h4⟩⟩ =>
    refine ⟨rfl, IvsB.ok (by simp only [fsub_ivs, IvsB, Cv.int, and_true]; omega), ?_, ?_⟩
    · simp only [fsub_sem, fsub_sp, tell, Fits, and_true]; have := tell_fits (a - b); omega
    · simp only [fsub_sem, fsub_sp, tell, Cmp.den, beq_dec, fsub_tree, Tree.den, LE.den, Cv.list, placeA, List.getElem?_cons_zero, List.getElem?_cons_succ, IE.den, BE.den, At.den, CA.den, Env.get, Cv.int, Cv.bool, List.cons_append, List.nil_append, List.map_cons, List.map_nil, bindRes, bindEq, Fits, SV.den, denL, place, placeL, eq_t, eq_f, lt_t, lt_f, le_t, le_f, beq_iff_eq, beq_eq_false_iff_ne, ne_eq, reduceCtorEq, b_dec, decide_eq_true_eq, decide_eq_false_iff_not, Bool.not_eq_false', Bool.or_eq_true, Bool.or_eq_false_iff, Bool.and_eq_false_iff, true_iff, false_iff, Bool.false_eq_true, Bool.not_eq_true', Bool.and_eq_true, Bool.not_true, Bool.not_false, List.cons.injEq, Cv.i.injEq, Cv.b.injEq, and_true, true_and, agg_inj, tup_inj, Value.int.injEq, Value.bool.injEq]
      simp only [IsI, wi64]
      (repeat' (first | intro _ | refine And.intro ?_ ?_ | exact trivial)) <;> (try split) <;> omega
def fmul_sp : SpecSh := { args := [(.int .i64 (.z 0)), (.int .i64 (.z 0))], res := (.tup [(.int .i64 (.z 0)), (.int .i64 (.z 0))]), sh := [.i (some ((-9223372036854775808), 9223372036854775807)), .i (some ((-9223372036854775808), 9223372036854775807))] }
set_option maxRecDepth 100000 in
def fmul_tree : Tree :=
.ite (.cmp .lt (.v 0) (.z 0)) (.lett (.wrap .u64 (.v 0)) <|
.lett (.subw .u64 (.z 0) (.v 2)) <|
.ite (.cmp .lt (.v 1) (.z 0)) (.lett (.wrap .u64 (.v 1)) <|
.lett (.subw .u64 (.z 0) (.v 4)) <|
.call 82 [.i (some (0, 18446744073709551615)), .i (some (0, 18446744073709551615))] [.i (.v 3), .i (.v 5)] <|
.ite (.cmp .lt (.z 0) (.v 6)) (.ret (.tup [(.int .i64 (.z 0)), (.int .i64 (.z 5))])) <|
.ite (.cmp .lt (.z 9223372036854775808) (.v 7)) (.ret (.tup [(.int .i64 (.z 0)), (.int .i64 (.z 5))])) <|
.ite (.cmp .lt (.z 9223372036854775807) (.v 7)) (.ret (.tup [(.int .i64 (.z 0)), (.int .i64 (.z 5))])) <|
.ret (.tup [(.int .i64 (.v 7)), (.int .i64 (.z 0))])) <|
.call 82 [.i (some (0, 18446744073709551615)), .i (some (0, 18446744073709551615))] [.i (.v 3), .i (.v 1)] <|
.ite (.cmp .lt (.z 0) (.v 4)) (.ret (.tup [(.int .i64 (.z 0)), (.int .i64 (.z 5))])) <|
.ite (.cmp .lt (.z 9223372036854775808) (.v 5)) (.ret (.tup [(.int .i64 (.z 0)), (.int .i64 (.z 5))])) <|
.ite (.cmp .lt (.z 9223372036854775807) (.v 5)) (.ret (.tup [(.int .i64 (.z (-9223372036854775808))), (.int .i64 (.z 0))])) <|
.lett (.subw .u64 (.z 0) (.v 5)) <|
.lett (.wrap .i64 (.v 6)) <|
.ret (.tup [(.int .i64 (.v 7)), (.int .i64 (.z 0))])) <|
.ite (.cmp .lt (.v 1) (.z 0)) (.lett (.wrap .u64 (.v 1)) <|
.lett (.subw .u64 (.z 0) (.v 2)) <|
.call 82 [.i (some (0, 18446744073709551615)), .i (some (0, 18446744073709551615))] [.i (.v 0), .i (.v 3)] <|
.ite (.cmp .lt (.z 0) (.v 4)) (.ret (.tup [(.int .i64 (.z 0)), (.int .i64 (.z 5))])) <|
.ite (.cmp .lt (.z 9223372036854775808) (.v 5)) (.ret (.tup [(.int .i64 (.z 0)), (.int .i64 (.z 5))])) <|
.ite (.cmp .lt (.z 9223372036854775807) (.v 5)) (.ret (.tup [(.int .i64 (.z (-9223372036854775808))), (.int .i64 (.z 0))])) <|
.lett (.subw .u64 (.z 0) (.v 5)) <|
.lett (.wrap .i64 (.v 6)) <|
.ret (.tup [(.int .i64 (.v 7)), (.int .i64 (.z 0))])) <|
.call 82 [.i (some (0, 18446744073709551615)), .i (some (0, 18446744073709551615))] [.i (.v 0), .i (.v 1)] <|
.ite (.cmp .lt (.z 0) (.v 2)) (.ret (.tup [(.int .i64 (.z 0)), (.int .i64 (.z 5))])) <|
.ite (.cmp .lt (.z 9223372036854775808) (.v 3)) (.ret (.tup [(.int .i64 (.z 0)), (.int .i64 (.z 5))])) <|
.ite (.cmp .lt (.z 9223372036854775807) (.v 3)) (.ret (.tup [(.int .i64 (.z 0)), (.int .i64 (.z 5))])) <|
.ret (.tup [(.int .i64 (.v 3)), (.int .i64 (.z 0))])
noncomputable def fmul_cx : Ctx := { tys := tys, fns := fns, sps := [(82, mul_sp)], anns := [], trys := [(91, try_try)] }
def fmul_ivs : List (Option (Int × Int)) := [some ((-9223372036854775808), 9223372036854775807), some ((-9223372036854775808), 9223372036854775807)]
set_option maxRecDepth 100000 in
theorem fmul_walk : runFn fmul_cx 3000 27 Try.f27 fmul_sp.args fmul_ivs = fmul_tree := by kernel_rfl
noncomputable def fmul_M : Nat → SpecSem
  | 82 => mul_sem
  | _ => noSem
theorem fmul_M82 : fmul_M 82 = mul_sem := rfl
theorem fmul_cxok : CxOK Try.prog fmul_cx fmul_M := ⟨tysOK, fnsOK, spCons mul_ok <| fun _ _ h => spNil h, mixedOK, trCons try_ok <| fun _ _ h => trNil h⟩

def fmul_sem : SpecSem := { pre := fun cs => match cs with | [.i a, .i b] => IsI a ∧ IsI b | _ => False, out := fun cs => match cs with | [.i a, .i b] => tell (a * b) | _ => [] }
theorem fmul_ok : SpecOK Try.prog 27 fmul_sp fmul_sem := by
  refine spec_of_tree fmul_cxok Try.func27 (by kernel_rfl) (by kernel_rfl) fmul_walk rfl ?_
  intro cs hpre
  match cs, hpre with
  | [.i a, .i b], ⟨⟨h1, h2⟩, ⟨h3, h4⟩⟩ =>
    refine ⟨rfl, IvsB.ok (by simp only [fmul_ivs, IvsB, Cv.int, and_true]; omega), ?_, ?_⟩
    · simp only [fmul_sem, fmul_sp, tell, Fits, and_true]; have := tell_fits (a * b); omega
    · simp only [fmul_sem, fmul_sp, tell, fmul_tree, fmul_M82, mul_sem, Tree.den, LE.den, Cv.list, placeA, List.getElem?_cons_zero, List.getElem?_cons_succ, IE.den, BE.den, At.den, CA.den, Env.get, Cv.int, Cv.bool, List.cons_append, List.nil_append, List.map_cons, List.map_nil, bindRes, bindEq, Fits, SV.den, denL, place, placeL, eq_t, eq_f, lt_t, lt_f, le_t, le_f, beq_iff_eq, beq_eq_false_iff_ne, ne_eq, reduceCtorEq, b_dec, decide_eq_true_eq, decide_eq_false_iff_not, Bool.not_eq_false', Bool.or_eq_true, Bool.or_eq_false_iff, Bool.and_eq_false_iff, true_iff, false_iff, Bool.false_eq_true, Bool.not_eq_true', Bool.and_eq_true, Bool.not_true, Bool.not_false, List.cons.injEq, Cv.i.injEq, Cv.b.injEq, and_true, true_and, agg_inj, tup_inj, Value.int.injEq, Value.bool.injEq]
      refine ⟨fun ha x hx x1 hx1 => ⟨fun hb y hy y1 hy1 => ?_, fun hb => ?_⟩, fun ha => ⟨fun hb y hy y1 hy1 => ?_, fun hb => ?_⟩⟩
      · rw [wu64_mod] at hx hx1 hy hy1
        have e1 : x1 = -a := by omega
        have e2 : y1 = -b := by omega
        subst e1; subst e2
        have hp := mul_hi (x := -a) (y := -b) ⟨by omega, by omega⟩ ⟨by omega, by omega⟩
        rw [Int.neg_mul_neg] at hp ⊢
        generalize a * b = P at *
        simp only [IsI, IsU, wi64, wu64_mod]
        (repeat' (first | intro _ | refine And.intro ?_ ?_ | exact trivial)) <;> (try split) <;> omega
      · rw [wu64_mod] at hx hx1
        have e1 : x1 = -a := by omega
        subst e1
        have hp := mul_hi (x := -a) (y := b) ⟨by omega, by omega⟩ ⟨by omega, by omega⟩
        rw [Int.neg_mul] at hp ⊢
        generalize a * b = P at *
        simp only [IsI, IsU, wi64, wu64_mod]
        (repeat' (first | intro _ | refine And.intro ?_ ?_ | exact trivial)) <;> (try split) <;> omega
      · rw [wu64_mod] at hy hy1
        have e2 : y1 = -b := by omega
        subst e2
        have hp := mul_hi (x := a) (y := -b) ⟨by omega, by omega⟩ ⟨by omega, by omega⟩
        rw [Int.mul_neg] at hp ⊢
        generalize a * b = P at *
        simp only [IsI, IsU, wi64, wu64_mod]
        (repeat' (first | intro _ | refine And.intro ?_ ?_ | exact trivial)) <;> (try split) <;> omega
      · have hp := mul_hi (x := a) (y := b) ⟨by omega, by omega⟩ ⟨by omega, by omega⟩
        generalize a * b = P at *
        simp only [IsI, IsU, wi64, wu64_mod]
        (repeat' (first | intro _ | refine And.intro ?_ ?_ | exact trivial)) <;> (try split) <;> omega
end Go.Proofs.Ytlhmhcjpdpakkaa.X
