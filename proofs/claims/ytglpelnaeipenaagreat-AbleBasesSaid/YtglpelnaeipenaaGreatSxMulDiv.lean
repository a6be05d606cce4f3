/-
  The contract of fix.MulDiv (a product, divided and rounded), for every four ints.
-/
import Derived.Test.YtglpelnaeipenaaGreatSxFixT
import Derived.Test.YtglpelnaeipenaaGreatSxDivide
import Derived.Test.YtglpelnaeipenaaGreatSxAbs
namespace Go.Proofs.YtglpelnaeipenaaGreat.X
open Go Go.SX Go.RowKit
set_option linter.unusedVariables false
set_option linter.unusedSimpArgs false






def fsize_sp : SpecSh := { args := [(.int .i64 (.z 0))], res := (.int .u64 (.z 0)), sh := [.i (some (0, 18446744073709551615))] }
set_option maxRecDepth 100000 in
def fsize_tree : Tree :=
.ite (.cmp .lt (.v 0) (.z 0)) (.lett (.wrap .u64 (.v 0)) <|
.lett (.subw .u64 (.z 0) (.v 1)) <|
.ret (.int .u64 (.v 2))) <|
.ret (.int .u64 (.v 0))
noncomputable def fsize_cx : Ctx := { tys := tys, fns := fns, mets := mets, sps := [], anns := [], trys := [] }
def fsize_ivs : List (Option (Int × Int)) := [some ((-9223372036854775808), 9223372036854775807)]
set_option maxRecDepth 100000 in
theorem fsize_walk : runFn fsize_cx 3000 45 Tryz.f45 fsize_sp.args fsize_ivs = fsize_tree := by kernel_rfl
noncomputable def fsize_M : Nat → SpecSem
  | _ => noSem
theorem fsize_cxok : CxOK Tryz.prog fsize_cx fsize_M := ⟨tysOK, fnsOK, fun _ _ h => spNil h, mixedOK, fun _ _ h => trNil h, fun _ _ h => atNil h, metsOK⟩

def fsize_sem : SpecSem := { pre := fun cs => match cs with | [.i a] => IsI a | _ => False, out := fun cs => match cs with | [.i a] => [.i (absZ a)] | _ => [] }
theorem fsize_ok : SpecOK Tryz.prog 45 fsize_sp fsize_sem := by
  refine spec_of_tree fsize_cxok Tryz.func45 (by kernel_rfl) (by kernel_rfl) fsize_walk rfl ?_
  intro cs hpre
  match cs, hpre with
  | [.i a], ⟨h1, h2⟩ =>
    refine ⟨rfl, IvsB.ok (by simp only [fsize_ivs, IvsB, Cv.int, and_true]; omega), ?_, ?_⟩
    · simp only [fsize_sem, fsize_sp, Fits, and_true, absZ]; split <;> omega
    · simp only [fsize_sem, fsize_sp, IsU, absZ, wu64_mod, fsize_tree, Tree.den, LE.den, Cv.list, placeA, List.getElem?_cons_zero, List.getElem?_cons_succ, IE.den, BE.den, At.den, CA.den, Env.get, Cv.int, Cv.bool, List.cons_append, List.nil_append, List.map_cons, List.map_nil, bindRes, bindEq, Fits, SV.den, denL, place, placeL, eq_t, eq_f, lt_t, lt_f, le_t, le_f, beq_iff_eq, beq_eq_false_iff_ne, ne_eq, reduceCtorEq, b_dec, decide_eq_true_eq, decide_eq_false_iff_not, Bool.not_eq_false', Bool.or_eq_true, Bool.or_eq_false_iff, Bool.and_eq_false_iff, true_iff, false_iff, Bool.false_eq_true, Bool.not_eq_true', Bool.and_eq_true, Bool.not_true, Bool.not_false, List.cons.injEq, Cv.i.injEq, Cv.b.injEq, and_true, true_and, agg_inj, tup_inj, Value.int.injEq, Value.bool.injEq]
      (repeat' (first | intro _ | refine And.intro ?_ ?_ | exact trivial)) <;> omega
/-- the quotient N / C (C above 0), rounded: down, up, or to the nearest (of two the even one) -/
def roundZ (N C m : Int) : Int :=
  if m = 0 then N / C else if m = 1 then -((-N) / C) else if C < 2 * (N % C) ∨ 2 * (N % C) = C ∧ N / C % 2 = 1 then N / C + 1 else N / C
def mdZ (a b c m : Int) : Int := roundZ (if c < 0 then -(a * b) else a * b) (absZ c) m
def mdV (a b c m : Int) : Int := if (0 ≤ m ∧ m < 3) ∧ c ≠ 0 ∧ IsI (mdZ a b c m) then mdZ a b c m else 0
def mdE (a b c m : Int) : Int := if (0 ≤ m ∧ m < 3) then (if c = 0 then 4 else if IsI (mdZ a b c m) then 0 else 5) else 1
theorem div_of {D N q r : Int} (hN : N = q * D + r) (h0 : 0 ≤ r) (h1 : r < D) : N / D = q ∧ N % D = r := by
  have hd : D ≠ 0 := by omega
  have e := Int.emod_add_mul_ediv N D
  have e0 := Int.emod_nonneg N hd
  have e1 := Int.emod_lt_of_pos N (show 0 < D by omega)
  have hq : N / D = q := by
    rw [hN, Int.add_comm, Int.add_mul_ediv_right _ _ hd, Int.ediv_eq_zero_of_lt h0 h1, Int.zero_add]
  refine ⟨hq, ?_⟩
  rw [hq, Int.mul_comm] at e
  omega
theorem neg_div {D T : Int} (hD : 0 < D) : (T % D = 0 → (-T) / D = -(T / D) ∧ (-T) % D = 0) ∧ (T % D ≠ 0 → (-T) / D = -(T / D) - 1 ∧ (-T) % D = D - T % D) := by
  have e := Int.emod_add_mul_ediv T D
  have e0 := Int.emod_nonneg T (b := D) (by omega)
  have e1 := Int.emod_lt_of_pos T hD
  have em : D * (T / D) = T / D * D := Int.mul_comm _ _
  refine ⟨fun h => div_of ?_ (by omega) (by omega), fun h => div_of ?_ (by omega) (by omega)⟩
  · rw [Int.neg_mul]; omega
  · rw [Int.sub_mul, Int.neg_mul, Int.one_mul]; omega
/-- rounding, by what is divided without signs: quotient, what is left, and the sign -/
theorem roundZ_pos {T C m : Int} (hC : 0 < C) : roundZ T C m = if m = 0 then T / C else if m = 1 then (if T % C = 0 then T / C else T / C + 1) else if C < 2 * (T % C) ∨ 2 * (T % C) = C ∧ T / C % 2 = 1 then T / C + 1 else T / C := by
  obtain ⟨n1, n2⟩ := neg_div (T := T) hC
  unfold roundZ
  by_cases h : T % C = 0
  · rw [(n1 h).1, if_pos h]; simp only [Int.neg_neg]
  · rw [(n2 h).1, if_neg h]; rw [show -(-(T / C) - 1) = T / C + 1 by omega]
theorem roundZ_neg {T C m : Int} (hC : 0 < C) : roundZ (-T) C m = if m = 0 then (if T % C = 0 then -(T / C) else -(T / C) - 1) else if m = 1 then -(T / C) else if C < 2 * (T % C) ∨ 2 * (T % C) = C ∧ T / C % 2 = 1 then -(T / C) - 1 else -(T / C) := by
  obtain ⟨n1, n2⟩ := neg_div (T := T) hC
  have e0 := Int.emod_nonneg T (b := C) (by omega)
  have e1 := Int.emod_lt_of_pos T hC
  unfold roundZ
  rw [Int.neg_neg]
  generalize T / C = q at *
  generalize T % C = r at *
  generalize (-T) / C = q' at *
  generalize (-T) % C = r' at *
  by_cases h : r = 0
  · obtain ⟨h1, h2⟩ := n1 h
    subst h1; subst h2; subst h
    by_cases m0 : m = 0
    · simp only [if_pos m0, if_true]
    · by_cases m1 : m = 1
      · simp only [if_pos m1, if_neg m0]
      · simp only [if_neg m1, if_neg m0]
        rw [if_neg (by omega), if_neg (by omega)]
  · obtain ⟨h1, h2⟩ := n2 h
    subst h1; subst h2
    by_cases m0 : m = 0
    · simp only [if_pos m0, if_neg h]
    · by_cases m1 : m = 1
      · simp only [if_pos m1, if_neg m0]
      · simp only [if_neg m1, if_neg m0]
        by_cases c1 : C < 2 * (C - r) ∨ 2 * (C - r) = C ∧ (-q - 1) % 2 = 1
        · rw [if_pos c1, if_neg (by omega)]; omega
        · rw [if_neg c1, if_pos (by omega)]
theorem sign_mul {a b : Int} (ha : a ≠ 0) (hb : b ≠ 0) : a * b = if (a < 0 ↔ b < 0) then absZ a * absZ b else -(absZ a * absZ b) := by
  unfold absZ
  by_cases h : a < 0 <;> by_cases h' : b < 0 <;> simp only [h, h', if_true, if_false, iff_true, iff_false, not_true, not_false_iff, Int.neg_mul_neg, Int.neg_mul, Int.mul_neg, Int.neg_neg]
theorem mdZ_zero {a b c m : Int} (h : a = 0 ∨ b = 0) (hc : c ≠ 0) : mdZ a b c m = 0 := by
  have hN : (if c < 0 then -(a * b) else a * b) = 0 := by
    rcases h with rfl | rfl <;> simp
  have hC : 0 < absZ c := by unfold absZ; split <;> omega
  unfold mdZ
  rw [hN]
  unfold roundZ
  simp only [Int.zero_ediv, Int.zero_emod, Int.neg_zero]
  (repeat' split) <;> omega
theorem mdZ_sign {a b c m : Int} (ha : a ≠ 0) (hb : b ≠ 0) : mdZ a b c m = if (¬(a < 0 ↔ b < 0) ↔ c < 0) then roundZ (absZ a * absZ b) (absZ c) m else roundZ (-(absZ a * absZ b)) (absZ c) m := by
  unfold mdZ
  rw [sign_mul ha hb]
  by_cases h1 : (a < 0 ↔ b < 0) <;> by_cases h2 : c < 0 <;> simp only [h1, h2, if_true, if_false, not_true, not_false_iff, iff_true, iff_false, true_iff, Int.neg_neg]
theorem md_down {N C Z : Int} (hC : 0 < C) : (Z = roundZ N C 0 → Z = N / C) ∧ (Z = roundZ (-N) C 0 → (N % C = 0 → Z = -(N / C)) ∧ (N % C ≠ 0 → Z = -(N / C) - 1)) := by
  refine ⟨fun h => ?_, fun h => ?_⟩
  · rw [h, roundZ_pos hC, if_pos rfl]
  · rw [roundZ_neg hC, if_pos rfl] at h
    refine ⟨fun e => ?_, fun e => ?_⟩
    · rw [h, if_pos e]
    · rw [h, if_neg e]
theorem md_up {N C Z : Int} (hC : 0 < C) : (Z = roundZ N C 1 → (N % C = 0 → Z = N / C) ∧ (N % C ≠ 0 → Z = N / C + 1)) ∧ (Z = roundZ (-N) C 1 → Z = -(N / C)) := by
  refine ⟨fun h => ?_, fun h => ?_⟩
  · rw [roundZ_pos hC, if_neg (by omega), if_pos rfl] at h
    refine ⟨fun e => ?_, fun e => ?_⟩
    · rw [h, if_pos e]
    · rw [h, if_neg e]
  · rw [h, roundZ_neg hC, if_neg (by omega), if_pos rfl]
theorem md_near {N C Z : Int} (hC : 0 < C) : (Z = roundZ N C 2 → ((C < 2 * (N % C) ∨ 2 * (N % C) = C ∧ N / C % 2 = 1) → Z = N / C + 1) ∧ (¬(C < 2 * (N % C) ∨ 2 * (N % C) = C ∧ N / C % 2 = 1) → Z = N / C)) ∧ (Z = roundZ (-N) C 2 → ((C < 2 * (N % C) ∨ 2 * (N % C) = C ∧ N / C % 2 = 1) → Z = -(N / C) - 1) ∧ (¬(C < 2 * (N % C) ∨ 2 * (N % C) = C ∧ N / C % 2 = 1) → Z = -(N / C))) := by
  refine ⟨fun h => ?_, fun h => ?_⟩
  · rw [roundZ_pos hC, if_neg (by omega), if_neg (by omega)] at h
    refine ⟨fun e => ?_, fun e => ?_⟩
    · rw [h, if_pos e]
    · rw [h, if_neg e]
  · rw [roundZ_neg hC, if_neg (by omega), if_neg (by omega)] at h
    refine ⟨fun e => ?_, fun e => ?_⟩
    · rw [h, if_pos e]
    · rw [h, if_neg e]
def fmd_sp : SpecSh := { args := [(.int .i64 (.z 0)), (.int .i64 (.z 0)), (.int .i64 (.z 0)), (.int .i64 (.z 0))], res := (.tup [(.int .i64 (.z 0)), (.int .i64 (.z 0))]), sh := [.i (some ((-9223372036854775808), 9223372036854775807)), .i (some ((-9223372036854775808), 9223372036854775807))] }
set_option maxRecDepth 100000 in
def fmd_tree : Tree :=
.ite (.cmp .lt (.v 3) (.z 0)) (.ret (.tup [(.int .i64 (.z 0)), (.int .i64 (.z 1))])) <|
.ite (.cmp .le (.z 3) (.v 3)) (.ret (.tup [(.int .i64 (.z 0)), (.int .i64 (.z 1))])) <|
.ite (.cmp .eq (.v 2) (.z 0)) (.ret (.tup [(.int .i64 (.z 0)), (.int .i64 (.z 4))])) <|
.call 45 [.i (some (0, 18446744073709551615))] [.i (.v 2)] <|
.call 45 [.i (some (0, 18446744073709551615))] [.i (.v 0)] <|
.call 45 [.i (some (0, 18446744073709551615))] [.i (.v 1)] <|
.call 47 [.i (some (0, 18446744073709551615)), .i (some (0, 18446744073709551615))] [.i (.v 5), .i (.v 6)] <|
.call 46 [.i (some (0, 18446744073709551615)), .i (some (0, 18446744073709551615)), .i (some (0, 18446744073709551615)), .i (some (0, 18446744073709551615)), .i (some ((-9223372036854775808), 9223372036854775807))] [.i (.v 7), .i (.v 8), .i (.z 0), .i (.v 4)] <|
.ite (.cmp .eq (.v 0) (.z 0)) (.ret (.tup [(.int .i64 (.z 0)), (.int .i64 (.z 0))])) <|
.ite (.cmp .eq (.v 1) (.z 0)) (.ret (.tup [(.int .i64 (.z 0)), (.int .i64 (.z 0))])) <|
.ite (.cmp .le (.v 3) (.z 0)) (.ite (.not (.eqv (.not (.eqv (.cmp .lt (.v 0) (.z 0)) (.cmp .lt (.v 1) (.z 0)))) (.cmp .lt (.v 2) (.z 0)))) (.ite (.not (.and (.cmp .eq (.v 11) (.z 0)) (.cmp .eq (.v 12) (.z 0)))) (.call 48 [.i (some (0, 18446744073709551615)), .i (some (0, 18446744073709551615)), .b] [.i (.v 9), .i (.v 10), .i (.z 0), .i (.z 1)] <|
.ite (.cmp .lt (.z 0) (.v 14)) (.ret (.tup [(.int .i64 (.z 0)), (.int .i64 (.z 5))])) <|
.ite (.cmp .lt (.z 9223372036854775808) (.v 15)) (.ret (.tup [(.int .i64 (.z 0)), (.int .i64 (.z 5))])) <|
.ite (.cmp .lt (.z 9223372036854775807) (.v 15)) (.ret (.tup [(.int .i64 (.z (-9223372036854775808))), (.int .i64 (.z 0))])) <|
.lett (.subw .u64 (.z 0) (.v 15)) <|
.lett (.wrap .i64 (.v 17)) <|
.ret (.tup [(.int .i64 (.v 18)), (.int .i64 (.z 0))])) <|
.ite (.cmp .lt (.z 0) (.v 9)) (.ret (.tup [(.int .i64 (.z 0)), (.int .i64 (.z 5))])) <|
.ite (.cmp .lt (.z 9223372036854775808) (.v 10)) (.ret (.tup [(.int .i64 (.z 0)), (.int .i64 (.z 5))])) <|
.ite (.cmp .lt (.z 9223372036854775807) (.v 10)) (.ret (.tup [(.int .i64 (.z (-9223372036854775808))), (.int .i64 (.z 0))])) <|
.lett (.subw .u64 (.z 0) (.v 10)) <|
.lett (.wrap .i64 (.v 14)) <|
.ret (.tup [(.int .i64 (.v 15)), (.int .i64 (.z 0))])) <|
.ite (.cmp .lt (.z 0) (.v 9)) (.ret (.tup [(.int .i64 (.z 0)), (.int .i64 (.z 5))])) <|
.ite (.cmp .lt (.z 9223372036854775808) (.v 10)) (.ret (.tup [(.int .i64 (.z 0)), (.int .i64 (.z 5))])) <|
.ite (.cmp .lt (.z 9223372036854775807) (.v 10)) (.ret (.tup [(.int .i64 (.z 0)), (.int .i64 (.z 5))])) <|
.ret (.tup [(.int .i64 (.v 10)), (.int .i64 (.z 0))])) <|
.ite (.cmp .le (.v 3) (.z 1)) (.ite (.eqv (.not (.eqv (.cmp .lt (.v 0) (.z 0)) (.cmp .lt (.v 1) (.z 0)))) (.cmp .lt (.v 2) (.z 0))) (.ite (.not (.and (.cmp .eq (.v 11) (.z 0)) (.cmp .eq (.v 12) (.z 0)))) (.call 48 [.i (some (0, 18446744073709551615)), .i (some (0, 18446744073709551615)), .b] [.i (.v 9), .i (.v 10), .i (.z 0), .i (.z 1)] <|
.ite (.cmp .lt (.z 0) (.v 14)) (.ret (.tup [(.int .i64 (.z 0)), (.int .i64 (.z 5))])) <|
.ite (.cmp .lt (.z 9223372036854775808) (.v 15)) (.ret (.tup [(.int .i64 (.z 0)), (.int .i64 (.z 5))])) <|
.ite (.cmp .lt (.z 9223372036854775807) (.v 15)) (.ret (.tup [(.int .i64 (.z 0)), (.int .i64 (.z 5))])) <|
.ret (.tup [(.int .i64 (.v 15)), (.int .i64 (.z 0))])) <|
.ite (.cmp .lt (.z 0) (.v 9)) (.ret (.tup [(.int .i64 (.z 0)), (.int .i64 (.z 5))])) <|
.ite (.cmp .lt (.z 9223372036854775808) (.v 10)) (.ret (.tup [(.int .i64 (.z 0)), (.int .i64 (.z 5))])) <|
.ite (.cmp .lt (.z 9223372036854775807) (.v 10)) (.ret (.tup [(.int .i64 (.z 0)), (.int .i64 (.z 5))])) <|
.ret (.tup [(.int .i64 (.v 10)), (.int .i64 (.z 0))])) <|
.ite (.cmp .lt (.z 0) (.v 9)) (.ret (.tup [(.int .i64 (.z 0)), (.int .i64 (.z 5))])) <|
.ite (.cmp .lt (.z 9223372036854775808) (.v 10)) (.ret (.tup [(.int .i64 (.z 0)), (.int .i64 (.z 5))])) <|
.ite (.cmp .lt (.z 9223372036854775807) (.v 10)) (.ret (.tup [(.int .i64 (.z (-9223372036854775808))), (.int .i64 (.z 0))])) <|
.lett (.subw .u64 (.z 0) (.v 10)) <|
.lett (.wrap .i64 (.v 14)) <|
.ret (.tup [(.int .i64 (.v 15)), (.int .i64 (.z 0))])) <|
.call 65 [.i (some (0, 18446744073709551615)), .i (some (0, 18446744073709551615)), .b] [.i (.z 0), .i (.v 4), .i (.v 11), .i (.v 12)] <|
.call 51 [.b] [.i (.v 14), .i (.v 15), .i (.v 11), .i (.v 12)] <|
.ite (.v 17) (.call 48 [.i (some (0, 18446744073709551615)), .i (some (0, 18446744073709551615)), .b] [.i (.v 9), .i (.v 10), .i (.z 0), .i (.z 1)] <|
.ite (.cmp .lt (.z 0) (.v 18)) (.ret (.tup [(.int .i64 (.z 0)), (.int .i64 (.z 5))])) <|
.ite (.cmp .lt (.z 9223372036854775808) (.v 19)) (.ret (.tup [(.int .i64 (.z 0)), (.int .i64 (.z 5))])) <|
.ite (.cmp .lt (.z 9223372036854775807) (.v 19)) (.ite (.eqv (.not (.eqv (.cmp .lt (.v 0) (.z 0)) (.cmp .lt (.v 1) (.z 0)))) (.cmp .lt (.v 2) (.z 0))) (.ret (.tup [(.int .i64 (.z 0)), (.int .i64 (.z 5))])) <|
.ret (.tup [(.int .i64 (.z (-9223372036854775808))), (.int .i64 (.z 0))])) <|
.ite (.not (.eqv (.not (.eqv (.cmp .lt (.v 0) (.z 0)) (.cmp .lt (.v 1) (.z 0)))) (.cmp .lt (.v 2) (.z 0)))) (.lett (.subw .u64 (.z 0) (.v 19)) <|
.lett (.wrap .i64 (.v 21)) <|
.ret (.tup [(.int .i64 (.v 22)), (.int .i64 (.z 0))])) <|
.ret (.tup [(.int .i64 (.v 19)), (.int .i64 (.z 0))])) <|
.ite (.and (.cmp .eq (.v 14) (.v 11)) (.cmp .eq (.v 15) (.v 12))) (.lett (.bit .and .u64 (.v 10) (.z 1)) <|
.ite (.cmp .eq (.v 18) (.z 1)) (.call 48 [.i (some (0, 18446744073709551615)), .i (some (0, 18446744073709551615)), .b] [.i (.v 9), .i (.v 10), .i (.z 0), .i (.z 1)] <|
.ite (.cmp .lt (.z 0) (.v 19)) (.ret (.tup [(.int .i64 (.z 0)), (.int .i64 (.z 5))])) <|
.ite (.cmp .lt (.z 9223372036854775808) (.v 20)) (.ret (.tup [(.int .i64 (.z 0)), (.int .i64 (.z 5))])) <|
.ite (.cmp .lt (.z 9223372036854775807) (.v 20)) (.ite (.eqv (.not (.eqv (.cmp .lt (.v 0) (.z 0)) (.cmp .lt (.v 1) (.z 0)))) (.cmp .lt (.v 2) (.z 0))) (.ret (.tup [(.int .i64 (.z 0)), (.int .i64 (.z 5))])) <|
.ret (.tup [(.int .i64 (.z (-9223372036854775808))), (.int .i64 (.z 0))])) <|
.ite (.not (.eqv (.not (.eqv (.cmp .lt (.v 0) (.z 0)) (.cmp .lt (.v 1) (.z 0)))) (.cmp .lt (.v 2) (.z 0)))) (.lett (.subw .u64 (.z 0) (.v 20)) <|
.lett (.wrap .i64 (.v 22)) <|
.ret (.tup [(.int .i64 (.v 23)), (.int .i64 (.z 0))])) <|
.ret (.tup [(.int .i64 (.v 20)), (.int .i64 (.z 0))])) <|
.ite (.cmp .lt (.z 0) (.v 9)) (.ret (.tup [(.int .i64 (.z 0)), (.int .i64 (.z 5))])) <|
.ite (.cmp .lt (.z 9223372036854775808) (.v 10)) (.ret (.tup [(.int .i64 (.z 0)), (.int .i64 (.z 5))])) <|
.ite (.cmp .lt (.z 9223372036854775807) (.v 10)) (.ite (.eqv (.not (.eqv (.cmp .lt (.v 0) (.z 0)) (.cmp .lt (.v 1) (.z 0)))) (.cmp .lt (.v 2) (.z 0))) (.ret (.tup [(.int .i64 (.z 0)), (.int .i64 (.z 5))])) <|
.ret (.tup [(.int .i64 (.z (-9223372036854775808))), (.int .i64 (.z 0))])) <|
.ite (.not (.eqv (.not (.eqv (.cmp .lt (.v 0) (.z 0)) (.cmp .lt (.v 1) (.z 0)))) (.cmp .lt (.v 2) (.z 0)))) (.lett (.subw .u64 (.z 0) (.v 10)) <|
.lett (.wrap .i64 (.v 19)) <|
.ret (.tup [(.int .i64 (.v 20)), (.int .i64 (.z 0))])) <|
.ret (.tup [(.int .i64 (.v 10)), (.int .i64 (.z 0))])) <|
.ite (.cmp .lt (.z 0) (.v 9)) (.ret (.tup [(.int .i64 (.z 0)), (.int .i64 (.z 5))])) <|
.ite (.cmp .lt (.z 9223372036854775808) (.v 10)) (.ret (.tup [(.int .i64 (.z 0)), (.int .i64 (.z 5))])) <|
.ite (.cmp .lt (.z 9223372036854775807) (.v 10)) (.ite (.eqv (.not (.eqv (.cmp .lt (.v 0) (.z 0)) (.cmp .lt (.v 1) (.z 0)))) (.cmp .lt (.v 2) (.z 0))) (.ret (.tup [(.int .i64 (.z 0)), (.int .i64 (.z 5))])) <|
.ret (.tup [(.int .i64 (.z (-9223372036854775808))), (.int .i64 (.z 0))])) <|
.ite (.not (.eqv (.not (.eqv (.cmp .lt (.v 0) (.z 0)) (.cmp .lt (.v 1) (.z 0)))) (.cmp .lt (.v 2) (.z 0)))) (.lett (.subw .u64 (.z 0) (.v 10)) <|
.lett (.wrap .i64 (.v 18)) <|
.ret (.tup [(.int .i64 (.v 19)), (.int .i64 (.z 0))])) <|
.ret (.tup [(.int .i64 (.v 10)), (.int .i64 (.z 0))])
noncomputable def fmd_cx : Ctx := { tys := tys, fns := fns, mets := mets, sps := [(45, fsize_sp), (47, mul_sp), (46, wdiv_sp), (48, wadd_sp), (65, wsub_sp), (51, less_sp)], anns := [], trys := [(43, try_try)] }
def fmd_ivs : List (Option (Int × Int)) := [some ((-9223372036854775808), 9223372036854775807), some ((-9223372036854775808), 9223372036854775807), some ((-9223372036854775808), 9223372036854775807), some ((-9223372036854775808), 9223372036854775807)]
set_option maxRecDepth 100000 in
theorem fmd_walk : runFn fmd_cx 3000 29 Tryz.f29 fmd_sp.args fmd_ivs = fmd_tree := by kernel_rfl
noncomputable def fmd_M : Nat → SpecSem
  | 45 => fsize_sem
  | 47 => mul_sem
  | 46 => wdiv_sem
  | 48 => wadd_sem
  | 65 => wsub_sem
  | 51 => less_sem
  | _ => noSem
theorem fmd_M45 : fmd_M 45 = fsize_sem := rfl
theorem fmd_M47 : fmd_M 47 = mul_sem := rfl
theorem fmd_M46 : fmd_M 46 = wdiv_sem := rfl
theorem fmd_M48 : fmd_M 48 = wadd_sem := rfl
theorem fmd_M65 : fmd_M 65 = wsub_sem := rfl
theorem fmd_M51 : fmd_M 51 = less_sem := rfl
theorem fmd_cxok : CxOK Tryz.prog fmd_cx fmd_M := ⟨tysOK, fnsOK, spCons fsize_ok <| spCons mul_ok <| spCons wdiv_ok <| spCons wadd_ok <| spCons wsub_ok <| spCons less_ok <| fun _ _ h => spNil h, mixedOK, trCons try_ok <| fun _ _ h => trNil h, fun _ _ h => atNil h, metsOK⟩

def fmd_sem : SpecSem := { pre := fun cs => match cs with | [.i a, .i b, .i c, .i m] => IsI a ∧ IsI b ∧ IsI c ∧ IsI m | _ => False, out := fun cs => match cs with | [.i a, .i b, .i c, .i m] => [.i (mdV a b c m), .i (mdE a b c m)] | _ => [] }
theorem mdVE_rng (a b c m : Int) : (-9223372036854775808 ≤ mdV a b c m ∧ mdV a b c m ≤ 9223372036854775807) ∧ (0 ≤ mdE a b c m ∧ mdE a b c m ≤ 5) := by
  refine ⟨?_, ?_⟩
  · unfold mdV; split
    · rename_i h; exact h.2.2
    · omega
  · unfold mdE; (repeat' split) <;> omega
set_option maxHeartbeats 8000000 in
theorem fmd_ok : SpecOK Tryz.prog 29 fmd_sp fmd_sem := by
  refine spec_of_tree fmd_cxok Tryz.func29 (by kernel_rfl) (by kernel_rfl) fmd_walk rfl ?_
  intro cs hpre
  match cs, hpre with
  | [.i a, .i b, .i c, .i m], ⟨⟨h1, h2⟩, ⟨h3, h4⟩, ⟨h5, h6⟩, ⟨h7, h8⟩⟩ =>
    refine ⟨rfl, IvsB.ok (by simp only [fmd_ivs, IvsB, Cv.int, and_true]; omega), ?_, ?_⟩
    · simp only [fmd_sem, fmd_sp, Fits, and_true]; have := mdVE_rng a b c m; omega
    · obtain ⟨z1, z2⟩ := absZ_le (a := a) ⟨h1, h2⟩
      obtain ⟨z3, z4⟩ := absZ_le (a := b) ⟨h3, h4⟩
      obtain ⟨z5, z6⟩ := absZ_le (a := c) ⟨h5, h6⟩
      simp (config := { maxSteps := 4000000 }) only [fmd_sem, fmd_sp, IsU, Cmp.den, beq_dec, fmd_tree, fmd_M45, fsize_sem, fmd_M47, mul_sem, fmd_M46, wdiv_sem, fmd_M48, wadd_sem, fmd_M65, wsub_sem, fmd_M51, less_sem, Tree.den, LE.den, Cv.list, placeA, List.getElem?_cons_zero, List.getElem?_cons_succ, IE.den, BE.den, At.den, CA.den, Env.get, Cv.int, Cv.bool, List.cons_append, List.nil_append, List.map_cons, List.map_nil, bindRes, bindEq, Fits, SV.den, denL, place, placeL, eq_t, eq_f, lt_t, lt_f, le_t, le_f, beq_iff_eq, beq_eq_false_iff_ne, ne_eq, reduceCtorEq, b_dec, decide_eq_true_eq, decide_eq_false_iff_not, Bool.not_eq_false', Bool.or_eq_true, Bool.or_eq_false_iff, Bool.and_eq_false_iff, true_iff, false_iff, Bool.false_eq_true, Bool.not_eq_true', Bool.and_eq_true, Bool.not_true, Bool.not_false, List.cons.injEq, Cv.i.injEq, Cv.b.injEq, and_true, true_and, agg_inj, tup_inj, Value.int.injEq, Value.bool.injEq]
      simp only [decide_eq_true_eq, decide_eq_false_iff_not, Int.not_lt, Int.not_le]
      refine ⟨fun hm => ?_, fun hm => ⟨fun hm3 => ?_, fun hm3 => ⟨fun hc => ?_, fun hc => ⟨⟨h5, h6⟩, ?_⟩⟩⟩⟩
      · replace hm := of_decide_eq_true hm
        unfold mdV mdE; rw [if_neg (fun h => by omega), if_neg (fun h => by omega)]; exact ⟨rfl, rfl⟩
      · replace hm := of_decide_eq_false hm
        replace hm3 := of_decide_eq_true hm3
        unfold mdV mdE; rw [if_neg (fun h => by omega), if_neg (fun h => by omega)]; exact ⟨rfl, rfl⟩
      · replace hm := of_decide_eq_false hm
        replace hm3 := of_decide_eq_false hm3
        replace hc : c = 0 := of_decide_eq_true hc
        unfold mdV mdE; rw [if_neg (fun h => h.2.1 hc), if_pos (by omega), if_pos hc]; exact ⟨rfl, rfl⟩
      · replace hm := of_decide_eq_false hm
        replace hm3 := of_decide_eq_false hm3
        replace hc : c ≠ 0 := of_decide_eq_false hc
        have hV : mdV a b c m = if IsI (mdZ a b c m) then mdZ a b c m else 0 := by
          unfold mdV
          by_cases hi : IsI (mdZ a b c m)
          · rw [if_pos hi, if_pos ⟨by omega, hc, hi⟩]
          · rw [if_neg hi, if_neg (fun h => hi h.2.2)]
        have hE : mdE a b c m = if IsI (mdZ a b c m) then 0 else 5 := by
          unfold mdE
          rw [if_pos (by omega), if_neg hc]
        rw [hV, hE]
        clear hV hE
        intro C hC c0 c1
        have hCp : 0 < C := by rw [hC]; unfold absZ; split <;> omega
        refine ⟨⟨h1, h2⟩, ?_⟩
        intro A hA a0 a1
        refine ⟨⟨h3, h4⟩, ?_⟩
        intro B hB b0 b1
        refine ⟨by omega, ?_⟩
        intro ph hph ph0 ph1 pl hpl pl0 pl1
        refine ⟨by omega, ?_⟩
        intro q1 hq1 q10 q11 q0 hq0 q00 q01 r1 hr1 r10 r11 r0 hr0 r00 r01 k hk k0 k1
        have hZ0 : a = 0 ∨ b = 0 → mdZ a b c m = 0 := fun h => mdZ_zero h hc
        have hZ1 := fun ha hb => mdZ_sign (a := a) (b := b) (c := c) (m := m) ha hb
        rw [← hA, ← hB, ← hC] at hZ1
        have hN0 : 0 ≤ A * B := Int.mul_nonneg a0 b0
        have hN1 : A * B ≤ 9223372036854775808 * 9223372036854775808 := Int.mul_le_mul (by omega) (by omega) b0 (by omega)
        have hv : val ph pl = A * B := by unfold val; omega
        have hvC : val 0 C = C := by unfold val; omega
        rw [divQ, hvC, if_neg (by omega), hv] at hq1 hq0
        rw [divR, hvC, if_neg (by omega), hv] at hr1 hr0
        have hd0 := Int.ediv_nonneg (b := C) hN0 (by omega)
        have hd1 := Int.ediv_le_self (a := A * B) C hN0
        have hQ : A * B / C ≤ 85070591730234615865843651857942052864 := Int.le_trans hd1 (Int.le_trans hN1 (by decide))
        clear hd1
        have hm0 := Int.emod_nonneg (A * B) (b := C) (by omega)
        have hm1 := Int.emod_lt_of_pos (A * B) hCp
        have dn := md_down (N := A * B) (Z := mdZ a b c m) hCp
        have up := md_up (N := A * B) (Z := mdZ a b c m) hCp
        have nr := md_near (N := A * B) (Z := mdZ a b c m) hCp
        have hbit := and_mod (x := q0) 1 (by omega) q00 (by omega)
        simp only [show ((2 ^ 1 - 1 : Nat) : Int) = 1 from rfl, show ((2 ^ 1 : Nat) : Int) = 2 from rfl] at hbit
        rw [hbit]
        clear hbit hk k0 k1 hv hph hpl ph0 ph1 pl0 pl1
        have hmm : m = 0 ∨ m = 1 ∨ m = 2 := by omega
        clear z1 z2 z3 z4 z5 z6 hA hB hC
        generalize hZ : mdZ a b c m = Z at *
        clear hZ
        generalize A * B / C = Q at *
        generalize A * B % C = R at *
        have eQ : val q1 q0 = Q := by unfold val; omega
        have eR : val r1 r0 = R := by unfold val; omega
        have e01 : val 0 1 = 1 := rfl
        rw [eQ, eR, e01, hvC]
        have eR' : R = r1 * 18446744073709551616 + r0 := eR.symm
        have eQ' : Q = q1 * 18446744073709551616 + q0 := eQ.symm
        by_cases ha : a = 0
        · have := hZ0 (.inl ha)
          subst this
          clear hZ0 hZ1 dn up nr
          simp only [ha, not_true, false_imp_iff, and_true, true_imp_iff, IsI]
          omega
        · by_cases hb : b = 0
          · have := hZ0 (.inr hb)
            subst this
            clear hZ0 hZ1 dn up nr
            simp only [ha, hb, not_true, not_false_iff, false_imp_iff, and_true, true_and, true_imp_iff, IsI]
            omega
          · have hZ := hZ1 ha hb
            clear hZ0 hZ1
            simp only [ha, hb, not_false_iff, false_imp_iff, true_and, true_imp_iff]
            by_cases hs : (¬(a < 0 ↔ b < 0) ↔ c < 0)
            · rw [if_pos hs] at hZ
              simp only [hs, not_true, false_imp_iff, true_imp_iff, true_and, and_true]
              simp only [IsI, wi64, wu64_mod, val]
              clear h1 h2 h3 h4 h5 h6 h7 h8 hm hm3 hc ha hb hs a0 a1 b0 b1 hq1 hq0 hr1 hr0 eR eQ e01 hvC hN0 hN1 c0
              rcases hmm with rfl | rfl | rfl
              · have z := dn.1 hZ
                clear dn up nr hZ
                (repeat' (first | intro _ | refine And.intro ?_ ?_ | exact trivial)) <;> omega
              · have z := up.1 hZ
                clear dn up nr hZ
                (repeat' (first | intro _ | refine And.intro ?_ ?_ | exact trivial)) <;> omega
              · have z := nr.1 hZ
                clear dn up nr hZ
                (repeat' (first | intro _ | refine And.intro ?_ ?_ | exact trivial)) <;> omega
            · rw [if_neg hs] at hZ
              simp only [hs, not_false_iff, false_imp_iff, true_imp_iff, true_and, and_true]
              simp only [IsI, wi64, wu64_mod, val]
              clear h1 h2 h3 h4 h5 h6 h7 h8 hm hm3 hc ha hb hs a0 a1 b0 b1 hq1 hq0 hr1 hr0 eR eQ e01 hvC hN0 hN1 c0
              rcases hmm with rfl | rfl | rfl
              · have z := dn.2 hZ
                clear dn up nr hZ
                (repeat' (first | intro _ | refine And.intro ?_ ?_ | exact trivial)) <;> omega
              · have z := up.2 hZ
                clear dn up nr hZ
                (repeat' (first | intro _ | refine And.intro ?_ ?_ | exact trivial)) <;> omega
              · have z := nr.2 hZ
                clear dn up nr hZ
                (repeat' (first | intro _ | refine And.intro ?_ ?_ | exact trivial)) <;> omega
end Go.Proofs.YtglpelnaeipenaaGreat.X
