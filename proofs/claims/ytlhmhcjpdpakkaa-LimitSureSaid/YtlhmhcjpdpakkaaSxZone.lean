/-
  The contracts of zone's classes and hulls, and of the reference's (datumref13), for every input in range.
-/
import Derived.Test.YtlhmhcjpdpakkaaSxTimes
import Derived.Test.YtlhmhcjpdpakkaaSxRefTimes
import Derived.Test.YtlhmhcjpdpakkaaSxRef4M
import Derived.Test.YtlhmhcjpdpakkaaSxRatioRef
import Derived.Test.YtlhmhcjpdpakkaaSxSpanMul
namespace Go.Proofs.Ytlhmhcjpdpakkaa.X
open Go Go.SX Go.RowKit
set_option linter.unusedVariables false
set_option linter.unusedSimpArgs false



/-- how far out a deviation is, by a variance -/
def clsN (q v : Int) : Int := 1 + (if v < q then 1 else 0) + (if 4 * v < q then 1 else 0) + (if 9 * v < q then 1 else 0)
def clsZ (d v : Int) : Int := if d = 0 then 0 else if d < 0 then -clsN (d * d) v else clsN (d * d) v
theorem clsN_rng (q v : Int) : 1 ≤ clsN q v ∧ clsN q v ≤ 4 := by unfold clsN; omega
theorem clsZ_rng (d v : Int) : -4 ≤ clsZ d v ∧ clsZ d v ≤ 4 := by
  have := clsN_rng (d * d) v
  unfold clsZ; omega
theorem sq_i {d : Int} (h : IsI d) : 0 ≤ d * d ∧ d * d ≤ 85070591730234615865843651857942052864 := by
  unfold IsI at h
  by_cases h0 : 0 ≤ d
  · have h1 := Int.mul_le_mul (a := d) (b := d) (c := 9223372036854775807) (d := 9223372036854775807) (by omega) (by omega) (by omega) (by omega)
    have h2 := Int.mul_nonneg h0 h0
    omega
  · have h1 := Int.mul_le_mul (a := -d) (b := -d) (c := 9223372036854775808) (d := 9223372036854775808) (by omega) (by omega) (by omega) (by omega)
    have h2 := Int.mul_nonneg (a := -d) (b := -d) (by omega) (by omega)
    rw [Int.neg_mul_neg] at h1 h2
    omega
theorem vq (x : Int) : val (x / 18446744073709551616) (x % 18446744073709551616) = x := by unfold val; omega
theorem vq2 {x : Int} (h0 : 0 ≤ x) (h1 : x < 340282366920938463463374607431768211456) : val (x / 18446744073709551616 % 18446744073709551616) (x % 18446744073709551616) = x := by unfold val; omega
theorem wneg {d : Int} (h : -9223372036854775808 ≤ d ∧ d ≤ 9223372036854775807) (h0 : d < 0) : IntKind.u64.wrap (0 - IntKind.u64.wrap d) = -d := by rw [wu64_mod, wu64_mod]; omega
theorem v01 : val 0 1 = 1 := rfl
theorem v04 : val 0 4 = 4 := rfl
theorem v09 : val 0 9 = 9 := rfl
def zclass_sp : SpecSh := { args := [(.int .i64 (.z 0)), (.agg [(.int .u64 (.z 0)), (.int .u64 (.z 0))])], res := (.int .i64 (.z 0)), sh := [.i (some ((-4), 4))] }
set_option maxRecDepth 100000 in
def zclass_tree : Tree :=
.ite (.cmp .lt (.v 0) (.z 0)) (.lett (.wrap .u64 (.v 0)) <|
.lett (.subw .u64 (.z 0) (.v 3)) <|
.lett (.wrap .u64 (.v 0)) <|
.lett (.subw .u64 (.z 0) (.v 5)) <|
.call 82 [.i (some (0, 18446744073709551615)), .i (some (0, 18446744073709551615))] [.i (.v 4), .i (.v 6)] <|
.call 84 [.i (some (0, 18446744073709551615)), .i (some (0, 18446744073709551615)), .b] [.i (.z 0), .i (.z 1), .i (.v 1), .i (.v 2)] <|
.call 83 [.b] [.i (.v 9), .i (.v 10), .i (.v 7), .i (.v 8)] <|
.lett (.ite (.v 12) (.z 2) (.z 1)) <|
.call 84 [.i (some (0, 18446744073709551615)), .i (some (0, 18446744073709551615)), .b] [.i (.z 0), .i (.z 4), .i (.v 1), .i (.v 2)] <|
.call 83 [.b] [.i (.v 14), .i (.v 15), .i (.v 7), .i (.v 8)] <|
.ite (.v 17) (.lett (.add (.v 13) (.z 1)) <|
.call 84 [.i (some (0, 18446744073709551615)), .i (some (0, 18446744073709551615)), .b] [.i (.z 0), .i (.z 9), .i (.v 1), .i (.v 2)] <|
.call 83 [.b] [.i (.v 19), .i (.v 20), .i (.v 7), .i (.v 8)] <|
.ite (.v 22) (.lett (.add (.v 18) (.z 1)) <|
.lett (.sub (.z 0) (.v 23)) <|
.ret (.int .i64 (.v 24))) <|
.lett (.sub (.z 0) (.v 18)) <|
.ret (.int .i64 (.v 23))) <|
.call 84 [.i (some (0, 18446744073709551615)), .i (some (0, 18446744073709551615)), .b] [.i (.z 0), .i (.z 9), .i (.v 1), .i (.v 2)] <|
.call 83 [.b] [.i (.v 18), .i (.v 19), .i (.v 7), .i (.v 8)] <|
.ite (.v 21) (.lett (.add (.v 13) (.z 1)) <|
.lett (.sub (.z 0) (.v 22)) <|
.ret (.int .i64 (.v 23))) <|
.lett (.sub (.z 0) (.v 13)) <|
.ret (.int .i64 (.v 22))) <|
.call 82 [.i (some (0, 18446744073709551615)), .i (some (0, 18446744073709551615))] [.i (.v 0), .i (.v 0)] <|
.call 84 [.i (some (0, 18446744073709551615)), .i (some (0, 18446744073709551615)), .b] [.i (.z 0), .i (.z 1), .i (.v 1), .i (.v 2)] <|
.call 83 [.b] [.i (.v 5), .i (.v 6), .i (.v 3), .i (.v 4)] <|
.lett (.ite (.v 8) (.z 2) (.z 1)) <|
.call 84 [.i (some (0, 18446744073709551615)), .i (some (0, 18446744073709551615)), .b] [.i (.z 0), .i (.z 4), .i (.v 1), .i (.v 2)] <|
.call 83 [.b] [.i (.v 10), .i (.v 11), .i (.v 3), .i (.v 4)] <|
.ite (.v 13) (.lett (.add (.v 9) (.z 1)) <|
.call 84 [.i (some (0, 18446744073709551615)), .i (some (0, 18446744073709551615)), .b] [.i (.z 0), .i (.z 9), .i (.v 1), .i (.v 2)] <|
.call 83 [.b] [.i (.v 15), .i (.v 16), .i (.v 3), .i (.v 4)] <|
.ite (.v 18) (.lett (.add (.v 14) (.z 1)) <|
.ite (.cmp .eq (.v 0) (.z 0)) (.ret (.int .i64 (.z 0))) <|
.ret (.int .i64 (.v 19))) <|
.ite (.cmp .eq (.v 0) (.z 0)) (.ret (.int .i64 (.z 0))) <|
.ret (.int .i64 (.v 14))) <|
.call 84 [.i (some (0, 18446744073709551615)), .i (some (0, 18446744073709551615)), .b] [.i (.z 0), .i (.z 9), .i (.v 1), .i (.v 2)] <|
.call 83 [.b] [.i (.v 14), .i (.v 15), .i (.v 3), .i (.v 4)] <|
.ite (.v 17) (.lett (.add (.v 9) (.z 1)) <|
.ite (.cmp .eq (.v 0) (.z 0)) (.ret (.int .i64 (.z 0))) <|
.ret (.int .i64 (.v 18))) <|
.ite (.cmp .eq (.v 0) (.z 0)) (.ret (.int .i64 (.z 0))) <|
.ret (.int .i64 (.v 9))
noncomputable def zclass_cx : Ctx := { tys := tys, fns := fns, sps := [(82, mul_sp), (84, times_sp), (83, less_sp)], anns := [], trys := [] }
def zclass_ivs : List (Option (Int × Int)) := [some ((-9223372036854775808), 9223372036854775807), some (0, 18446744073709551615), some (0, 18446744073709551615)]
set_option maxRecDepth 100000 in
theorem zclass_walk : runFn zclass_cx 3000 149 Try.f149 zclass_sp.args zclass_ivs = zclass_tree := by kernel_rfl
noncomputable def zclass_M : Nat → SpecSem
  | 82 => mul_sem
  | 84 => times_sem
  | 83 => less_sem
  | _ => noSem
theorem zclass_M82 : zclass_M 82 = mul_sem := rfl
theorem zclass_M84 : zclass_M 84 = times_sem := rfl
theorem zclass_M83 : zclass_M 83 = less_sem := rfl
theorem zclass_cxok : CxOK Try.prog zclass_cx zclass_M := ⟨tysOK, fnsOK, spCons mul_ok <| spCons times_ok <| spCons less_ok <| fun _ _ h => spNil h, mixedOK, fun _ _ h => trNil h⟩
set_option maxRecDepth 100000 in
set_option maxHeartbeats 8000000 in
theorem zclass_den (R RP : Value → Prop) (F : Ex → St → Js → Env → Prop) (J : Js) (x0 : Int) (x1 : Int) (x2 : Int) : Tree.den zclass_M R RP F zclass_tree J [(.i x0), (.i x1), (.i x2)] = (
  ((Cmp.den .lt x0 (0 : Int)) = true → ∀ x3 : Int, x3 = (IntKind.u64.wrap x0) →
∀ x4 : Int, x4 = (IntKind.u64.wrap ((0 : Int) - x3)) →
∀ x5 : Int, x5 = (IntKind.u64.wrap x0) →
∀ x6 : Int, x6 = (IntKind.u64.wrap ((0 : Int) - x5)) →
(mul_sem.pre [(.i x4), (.i x6)]) ∧ (
∀ x7 : Int, x7 = (Cv.int (Env.get (mul_sem.out [(.i x4), (.i x6)]) 0)) → (0 : Int) ≤ x7 → x7 ≤ (18446744073709551615 : Int) →
∀ x8 : Int, x8 = (Cv.int (Env.get (mul_sem.out [(.i x4), (.i x6)]) 1)) → (0 : Int) ≤ x8 → x8 ≤ (18446744073709551615 : Int) →
(times_sem.pre [(.i (0 : Int)), (.i (1 : Int)), (.i x1), (.i x2)]) ∧ (
∀ x9 : Int, x9 = (Cv.int (Env.get (times_sem.out [(.i (0 : Int)), (.i (1 : Int)), (.i x1), (.i x2)]) 0)) → (0 : Int) ≤ x9 → x9 ≤ (18446744073709551615 : Int) →
∀ x10 : Int, x10 = (Cv.int (Env.get (times_sem.out [(.i (0 : Int)), (.i (1 : Int)), (.i x1), (.i x2)]) 1)) → (0 : Int) ≤ x10 → x10 ≤ (18446744073709551615 : Int) →
(less_sem.pre [(.i x9), (.i x10), (.i x7), (.i x8)]) ∧ (
∀ x13 : Int, x13 = (if (Cv.bool (Env.get (less_sem.out [(.i x9), (.i x10), (.i x7), (.i x8)]) 0)) = true then (2 : Int) else (1 : Int)) →
(times_sem.pre [(.i (0 : Int)), (.i (4 : Int)), (.i x1), (.i x2)]) ∧ (
∀ x14 : Int, x14 = (Cv.int (Env.get (times_sem.out [(.i (0 : Int)), (.i (4 : Int)), (.i x1), (.i x2)]) 0)) → (0 : Int) ≤ x14 → x14 ≤ (18446744073709551615 : Int) →
∀ x15 : Int, x15 = (Cv.int (Env.get (times_sem.out [(.i (0 : Int)), (.i (4 : Int)), (.i x1), (.i x2)]) 1)) → (0 : Int) ≤ x15 → x15 ≤ (18446744073709551615 : Int) →
(less_sem.pre [(.i x14), (.i x15), (.i x7), (.i x8)]) ∧ (
((Cv.bool (Env.get (less_sem.out [(.i x14), (.i x15), (.i x7), (.i x8)]) 0)) = true → ∀ x18 : Int, x18 = (x13 + (1 : Int)) →
(times_sem.pre [(.i (0 : Int)), (.i (9 : Int)), (.i x1), (.i x2)]) ∧ (
∀ x19 : Int, x19 = (Cv.int (Env.get (times_sem.out [(.i (0 : Int)), (.i (9 : Int)), (.i x1), (.i x2)]) 0)) → (0 : Int) ≤ x19 → x19 ≤ (18446744073709551615 : Int) →
∀ x20 : Int, x20 = (Cv.int (Env.get (times_sem.out [(.i (0 : Int)), (.i (9 : Int)), (.i x1), (.i x2)]) 1)) → (0 : Int) ≤ x20 → x20 ≤ (18446744073709551615 : Int) →
(less_sem.pre [(.i x19), (.i x20), (.i x7), (.i x8)]) ∧ (
((Cv.bool (Env.get (less_sem.out [(.i x19), (.i x20), (.i x7), (.i x8)]) 0)) = true → ∀ x23 : Int, x23 = (x18 + (1 : Int)) →
∀ x24 : Int, x24 = ((0 : Int) - x23) →
R (Value.int .i64 x24)) ∧ ((Cv.bool (Env.get (less_sem.out [(.i x19), (.i x20), (.i x7), (.i x8)]) 0)) = false → ∀ x23 : Int, x23 = ((0 : Int) - x18) →
R (Value.int .i64 x23))))) ∧ ((Cv.bool (Env.get (less_sem.out [(.i x14), (.i x15), (.i x7), (.i x8)]) 0)) = false → (times_sem.pre [(.i (0 : Int)), (.i (9 : Int)), (.i x1), (.i x2)]) ∧ (
∀ x18 : Int, x18 = (Cv.int (Env.get (times_sem.out [(.i (0 : Int)), (.i (9 : Int)), (.i x1), (.i x2)]) 0)) → (0 : Int) ≤ x18 → x18 ≤ (18446744073709551615 : Int) →
∀ x19 : Int, x19 = (Cv.int (Env.get (times_sem.out [(.i (0 : Int)), (.i (9 : Int)), (.i x1), (.i x2)]) 1)) → (0 : Int) ≤ x19 → x19 ≤ (18446744073709551615 : Int) →
(less_sem.pre [(.i x18), (.i x19), (.i x7), (.i x8)]) ∧ (
((Cv.bool (Env.get (less_sem.out [(.i x18), (.i x19), (.i x7), (.i x8)]) 0)) = true → ∀ x22 : Int, x22 = (x13 + (1 : Int)) →
∀ x23 : Int, x23 = ((0 : Int) - x22) →
R (Value.int .i64 x23)) ∧ ((Cv.bool (Env.get (less_sem.out [(.i x18), (.i x19), (.i x7), (.i x8)]) 0)) = false → ∀ x22 : Int, x22 = ((0 : Int) - x13) →
R (Value.int .i64 x22))))))))))) ∧ ((Cmp.den .lt x0 (0 : Int)) = false → (mul_sem.pre [(.i x0), (.i x0)]) ∧ (
∀ x3 : Int, x3 = (Cv.int (Env.get (mul_sem.out [(.i x0), (.i x0)]) 0)) → (0 : Int) ≤ x3 → x3 ≤ (18446744073709551615 : Int) →
∀ x4 : Int, x4 = (Cv.int (Env.get (mul_sem.out [(.i x0), (.i x0)]) 1)) → (0 : Int) ≤ x4 → x4 ≤ (18446744073709551615 : Int) →
(times_sem.pre [(.i (0 : Int)), (.i (1 : Int)), (.i x1), (.i x2)]) ∧ (
∀ x5 : Int, x5 = (Cv.int (Env.get (times_sem.out [(.i (0 : Int)), (.i (1 : Int)), (.i x1), (.i x2)]) 0)) → (0 : Int) ≤ x5 → x5 ≤ (18446744073709551615 : Int) →
∀ x6 : Int, x6 = (Cv.int (Env.get (times_sem.out [(.i (0 : Int)), (.i (1 : Int)), (.i x1), (.i x2)]) 1)) → (0 : Int) ≤ x6 → x6 ≤ (18446744073709551615 : Int) →
(less_sem.pre [(.i x5), (.i x6), (.i x3), (.i x4)]) ∧ (
∀ x9 : Int, x9 = (if (Cv.bool (Env.get (less_sem.out [(.i x5), (.i x6), (.i x3), (.i x4)]) 0)) = true then (2 : Int) else (1 : Int)) →
(times_sem.pre [(.i (0 : Int)), (.i (4 : Int)), (.i x1), (.i x2)]) ∧ (
∀ x10 : Int, x10 = (Cv.int (Env.get (times_sem.out [(.i (0 : Int)), (.i (4 : Int)), (.i x1), (.i x2)]) 0)) → (0 : Int) ≤ x10 → x10 ≤ (18446744073709551615 : Int) →
∀ x11 : Int, x11 = (Cv.int (Env.get (times_sem.out [(.i (0 : Int)), (.i (4 : Int)), (.i x1), (.i x2)]) 1)) → (0 : Int) ≤ x11 → x11 ≤ (18446744073709551615 : Int) →
(less_sem.pre [(.i x10), (.i x11), (.i x3), (.i x4)]) ∧ (
((Cv.bool (Env.get (less_sem.out [(.i x10), (.i x11), (.i x3), (.i x4)]) 0)) = true → ∀ x14 : Int, x14 = (x9 + (1 : Int)) →
(times_sem.pre [(.i (0 : Int)), (.i (9 : Int)), (.i x1), (.i x2)]) ∧ (
∀ x15 : Int, x15 = (Cv.int (Env.get (times_sem.out [(.i (0 : Int)), (.i (9 : Int)), (.i x1), (.i x2)]) 0)) → (0 : Int) ≤ x15 → x15 ≤ (18446744073709551615 : Int) →
∀ x16 : Int, x16 = (Cv.int (Env.get (times_sem.out [(.i (0 : Int)), (.i (9 : Int)), (.i x1), (.i x2)]) 1)) → (0 : Int) ≤ x16 → x16 ≤ (18446744073709551615 : Int) →
(less_sem.pre [(.i x15), (.i x16), (.i x3), (.i x4)]) ∧ (
((Cv.bool (Env.get (less_sem.out [(.i x15), (.i x16), (.i x3), (.i x4)]) 0)) = true → ∀ x19 : Int, x19 = (x14 + (1 : Int)) →
((Cmp.den .eq x0 (0 : Int)) = true → R (Value.int .i64 (0 : Int))) ∧ ((Cmp.den .eq x0 (0 : Int)) = false → R (Value.int .i64 x19))) ∧ ((Cv.bool (Env.get (less_sem.out [(.i x15), (.i x16), (.i x3), (.i x4)]) 0)) = false → ((Cmp.den .eq x0 (0 : Int)) = true → R (Value.int .i64 (0 : Int))) ∧ ((Cmp.den .eq x0 (0 : Int)) = false → R (Value.int .i64 x14)))))) ∧ ((Cv.bool (Env.get (less_sem.out [(.i x10), (.i x11), (.i x3), (.i x4)]) 0)) = false → (times_sem.pre [(.i (0 : Int)), (.i (9 : Int)), (.i x1), (.i x2)]) ∧ (
∀ x14 : Int, x14 = (Cv.int (Env.get (times_sem.out [(.i (0 : Int)), (.i (9 : Int)), (.i x1), (.i x2)]) 0)) → (0 : Int) ≤ x14 → x14 ≤ (18446744073709551615 : Int) →
∀ x15 : Int, x15 = (Cv.int (Env.get (times_sem.out [(.i (0 : Int)), (.i (9 : Int)), (.i x1), (.i x2)]) 1)) → (0 : Int) ≤ x15 → x15 ≤ (18446744073709551615 : Int) →
(less_sem.pre [(.i x14), (.i x15), (.i x3), (.i x4)]) ∧ (
((Cv.bool (Env.get (less_sem.out [(.i x14), (.i x15), (.i x3), (.i x4)]) 0)) = true → ∀ x18 : Int, x18 = (x9 + (1 : Int)) →
((Cmp.den .eq x0 (0 : Int)) = true → R (Value.int .i64 (0 : Int))) ∧ ((Cmp.den .eq x0 (0 : Int)) = false → R (Value.int .i64 x18))) ∧ ((Cv.bool (Env.get (less_sem.out [(.i x14), (.i x15), (.i x3), (.i x4)]) 0)) = false → ((Cmp.den .eq x0 (0 : Int)) = true → R (Value.int .i64 (0 : Int))) ∧ ((Cmp.den .eq x0 (0 : Int)) = false → R (Value.int .i64 x9))))))))))))) := by kernel_rfl

def zclass_sem : SpecSem := { pre := fun cs => match cs with | [.i d, .i h, .i l] => IsI d ∧ IsU h ∧ IsU l ∧ (h < 1152921504606846976) | _ => False, out := fun cs => match cs with | [.i d, .i h, .i l] => [.i (clsZ d (val h l))] | _ => [] }
set_option maxRecDepth 10000 in
set_option maxHeartbeats 16000000 in
theorem zclass_ok : SpecOK Try.prog 149 zclass_sp zclass_sem := by
  refine spec_of_tree zclass_cxok Try.func149 (by kernel_rfl) (by kernel_rfl) zclass_walk rfl ?_
  intro cs hpre
  match cs, hpre with
  | [.i d, .i h, .i l], ⟨j_d, j_h, j_l, hx⟩ =>
    have h_d := j_d
    unfold IsI at h_d
    have h_h := j_h
    unfold IsU at h_h
    have h_l := j_l
    unfold IsU at h_l
    refine ⟨rfl, IvsB.ok (by simp only [zclass_ivs, IvsB, Cv.int, and_true] <;> omega), ?_, ?_⟩
    · simp only [zclass_sem, zclass_sp, Fits, and_true]; exact clsZ_rng _ _
    · have hq := sq_i j_d
      rw [zclass_den]
      have hv : 0 ≤ val h l ∧ val h l < 21267647932558653966460912964485513216 := by unfold val; omega
      have e1 := vq2 (x := 1 * val h l) (by omega) (by omega)
      have e4 := vq2 (x := 4 * val h l) (by omega) (by omega)
      have e9 := vq2 (x := 9 * val h l) (by omega) (by omega)
      simp only [zclass_sem, zclass_sp, clsZ, clsN, IsU, v01, v04, v09, forall_eq, zclass_den, mul_sem, times_sem, less_sem, Tree.den, LE.den, Cv.list, placeA, List.getElem?_cons_zero, List.getElem?_cons_succ, IE.den, BE.den, At.den, CA.den, Env.get, Cv.int, Cv.bool, List.cons_append, List.nil_append, List.map_cons, List.map_nil, bindRes, bindEq, Fits, SV.den, denL, place, placeL, eq_t, eq_f, lt_t, lt_f, le_t, le_f, beq_iff_eq, beq_eq_false_iff_ne, ne_eq, reduceCtorEq, b_dec, decide_eq_true_eq, decide_eq_false_iff_not, Bool.not_eq_false', Bool.or_eq_true, Bool.or_eq_false_iff, Bool.and_eq_false_iff, true_iff, false_iff, Bool.false_eq_true, Bool.not_eq_true', Bool.and_eq_true, Bool.not_true, Bool.not_false, List.cons.injEq, Cv.i.injEq, Cv.b.injEq, and_true, true_and, agg_inj, tup_inj, Value.int.injEq, Value.bool.injEq]
      refine ⟨fun hn => ?_, fun hn => ?_⟩
      · rw [wneg h_d hn]
        simp only [Int.neg_mul_neg, vq, e1, e4, e9]
        generalize d * d = q at *
        generalize val h l = v at *
        clear e1 e4 e9
        (repeat' (first | intro _ | refine And.intro ?_ ?_ | exact trivial)) <;> omega
      · simp only [vq, e1, e4, e9]
        generalize d * d = q at *
        generalize val h l = v at *
        clear e1 e4 e9
        (repeat' (first | intro _ | refine And.intro ?_ ?_ | exact trivial)) <;> omega

def zClass_sp : SpecSh := { args := [(.int .i64 (.z 0)), (.agg [(.int .u64 (.z 0)), (.int .u64 (.z 0))])], res := (.tup [(.int .i64 (.z 0)), (.int .i64 (.z 0))]), sh := [.i (some ((-4), 4)), .i (some (0, 1))] }
set_option maxRecDepth 100000 in
def zClass_tree : Tree :=
.ite (.cmp .le (.z 1152921504606846976) (.v 1)) (.ret (.tup [(.int .i64 (.z 0)), (.int .i64 (.z 1))])) <|
.call 149 [.i (some ((-4), 4))] [.i (.v 0), .i (.v 1), .i (.v 2)] <|
.ret (.tup [(.int .i64 (.v 3)), (.int .i64 (.z 0))])
noncomputable def zClass_cx : Ctx := { tys := tys, fns := fns, sps := [(149, zclass_sp)], anns := [], trys := [] }
def zClass_ivs : List (Option (Int × Int)) := [some ((-9223372036854775808), 9223372036854775807), some (0, 18446744073709551615), some (0, 18446744073709551615)]
set_option maxRecDepth 100000 in
theorem zClass_walk : runFn zClass_cx 3000 85 Try.f85 zClass_sp.args zClass_ivs = zClass_tree := by kernel_rfl
noncomputable def zClass_M : Nat → SpecSem
  | 149 => zclass_sem
  | _ => noSem
theorem zClass_M149 : zClass_M 149 = zclass_sem := rfl
theorem zClass_cxok : CxOK Try.prog zClass_cx zClass_M := ⟨tysOK, fnsOK, spCons zclass_ok <| fun _ _ h => spNil h, mixedOK, fun _ _ h => trNil h⟩

def zClass_sem : SpecSem := { pre := fun cs => match cs with | [.i d, .i h, .i l] => IsI d ∧ IsU h ∧ IsU l | _ => False, out := fun cs => match cs with | [.i d, .i h, .i l] => [.i (if h < 1152921504606846976 then clsZ d (val h l) else 0), .i (if h < 1152921504606846976 then 0 else 1)] | _ => [] }
set_option maxRecDepth 10000 in
set_option maxHeartbeats 16000000 in
theorem zClass_ok : SpecOK Try.prog 85 zClass_sp zClass_sem := by
  refine spec_of_tree zClass_cxok Try.func85 (by kernel_rfl) (by kernel_rfl) zClass_walk rfl ?_
  intro cs hpre
  match cs, hpre with
  | [.i d, .i h, .i l], ⟨j_d, j_h, j_l⟩ =>
    have h_d := j_d
    unfold IsI at h_d
    have h_h := j_h
    unfold IsU at h_h
    have h_l := j_l
    unfold IsU at h_l
    refine ⟨rfl, IvsB.ok (by simp only [zClass_ivs, IvsB, Cv.int, and_true] <;> omega), ?_, ?_⟩
    · simp only [zClass_sem, zClass_sp, Fits, and_true]; have := clsZ_rng d (val h l); omega
    · simp only [zClass_sem, zClass_sp, zClass_tree, zClass_M149, zclass_sem, Tree.den, LE.den, Cv.list, placeA, List.getElem?_cons_zero, List.getElem?_cons_succ, IE.den, BE.den, At.den, CA.den, Env.get, Cv.int, Cv.bool, List.cons_append, List.nil_append, List.map_cons, List.map_nil, bindRes, bindEq, Fits, SV.den, denL, place, placeL, eq_t, eq_f, lt_t, lt_f, le_t, le_f, beq_iff_eq, beq_eq_false_iff_ne, ne_eq, reduceCtorEq, b_dec, decide_eq_true_eq, decide_eq_false_iff_not, Bool.not_eq_false', Bool.or_eq_true, Bool.or_eq_false_iff, Bool.and_eq_false_iff, true_iff, false_iff, Bool.false_eq_true, Bool.not_eq_true', Bool.and_eq_true, Bool.not_true, Bool.not_false, List.cons.injEq, Cv.i.injEq, Cv.b.injEq, and_true, true_and, agg_inj, tup_inj, Value.int.injEq, Value.bool.injEq]
      by_cases hh : h < 1152921504606846976
      · simp only [hh, j_d, j_h, j_l, forall_eq, if_true, if_false, true_and, and_true, false_and, and_false, true_or, or_true, false_or, or_false, true_iff, iff_true, false_iff, iff_false, not_true_eq_false, not_false_eq_true, true_implies, false_implies, implies_true, forall_const, decide_true, decide_false, reduceCtorEq]
        (repeat' (first | intro _ | refine And.intro ?_ ?_ | exact trivial)) <;> omega
      · simp only [hh, j_d, j_h, j_l, forall_eq, if_true, if_false, true_and, and_true, false_and, and_false, true_or, or_true, false_or, or_false, true_iff, iff_true, false_iff, iff_false, not_true_eq_false, not_false_eq_true, true_implies, false_implies, implies_true, forall_const, decide_true, decide_false, reduceCtorEq] <;> (try ((repeat' (first | intro _ | refine And.intro ?_ ?_ | exact trivial)) <;> omega))
/-- the mask of all classes from one to another -/
def maskZ (l g : Int) : Int := if l ≤ g then p2 (g + 5) - p2 (l + 4) else 0
theorem p2_lt {n m : Int} (hn : 0 ≤ n) (h : n < m) : p2 n < p2 m := by
  have h1 := p2_le (n := n + 1) (m := m) (by omega) (by omega)
  have h2 := p2_succ hn
  have := p2_pos n
  omega
theorem p2_deni {n : Int} (h0 : 0 ≤ n) (h : n ≤ 64) : (2 : Int) ^ (min n.toNat (IntKind.i64).bits) = p2 n := p2_den h0 h
theorem maskZ_rng {l g : Int} (h : -4 ≤ l) (h2 : g ≤ 4) : 0 ≤ maskZ l g ∧ maskZ l g ≤ 511 := by
  unfold maskZ
  split
  · have h1 := p2_lt (n := l + 4) (m := g + 5) (by omega) (by omega)
    have h3 := p2_le (n := g + 5) (m := 9) (by omega) (by omega)
    have h4 := p2_pos (l + 4)
    have h5 : p2 9 = 512 := rfl
    omega
  · omega
theorem maskZ_pos {l g : Int} (h : -4 ≤ l) (h2 : l ≤ g) : 1 ≤ maskZ l g := by
  unfold maskZ
  rw [if_pos h2]
  have h1 := p2_lt (n := l + 4) (m := g + 5) (by omega) (by omega)
  omega
/-- squares, in order -/
theorem sqz_le {a b : Int} (h0 : 0 ≤ a) (h : a ≤ b) : a * a ≤ b * b := Int.mul_le_mul h h h0 (by omega)
theorem sqz_ge {a b : Int} (h0 : b ≤ 0) (h : a ≤ b) : b * b ≤ a * a := by
  have := sqz_le (a := -b) (b := -a) (by omega) (by omega)
  rw [Int.neg_mul_neg, Int.neg_mul_neg] at this; exact this
theorem clsN_mono {q r v w : Int} (h : q ≤ r) (h2 : w ≤ v) : clsN q v ≤ clsN r w := by
  unfold clsN; omega
theorem sqz_pos {a : Int} (h : a ≠ 0) : 0 < a * a := by
  rcases Int.lt_or_gt_of_ne h with h | h
  · exact Int.mul_pos_of_neg_of_neg h h
  · exact Int.mul_pos h h
theorem clsZ_mono {a b v w : Int} (h : a ≤ b) (hs : a < 0 → b < 0 → v ≤ w) (hp : 0 < a → w ≤ v) : clsZ a v ≤ clsZ b w := by
  have r1 := clsN_rng (a * a) v
  have r2 := clsN_rng (b * b) w
  unfold clsZ
  by_cases a0 : a < 0
  · by_cases b0 : b < 0
    · have := clsN_mono (q := b * b) (r := a * a) (v := w) (w := v) (sqz_ge (by omega) h) (hs a0 b0)
      rw [if_neg (by omega), if_pos a0, if_neg (by omega), if_pos b0]; omega
    · rw [if_neg (by omega), if_pos a0]; split <;> first | omega | (split <;> omega)
  · by_cases a1 : a = 0
    · rw [if_pos a1]; split
      · omega
      · rw [if_neg (by omega)]; omega
    · have := clsN_mono (q := a * a) (r := b * b) (v := v) (w := w) (sqz_le (by omega) h) (hp (by omega))
      rw [if_neg a1, if_neg a0, if_neg (by omega), if_neg (by omega)]; omega
def hullLo (a u w : Int) : Int := if 0 < a then clsZ a w else clsZ a u
def hullHi (b u w : Int) : Int := if b < 0 then clsZ b w else clsZ b u
theorem hull_rng (a b u w : Int) : (-4 ≤ hullLo a u w ∧ hullLo a u w ≤ 4) ∧ (-4 ≤ hullHi b u w ∧ hullHi b u w ≤ 4) := by
  have h1 := clsZ_rng a u
  have h2 := clsZ_rng a w
  have h3 := clsZ_rng b u
  have h4 := clsZ_rng b w
  unfold hullLo hullHi
  constructor <;> split <;> omega
/-- whatever lies between has a class between -/
theorem hull_has {a b u w x v : Int} (h1 : a ≤ x) (h2 : x ≤ b) (h3 : u ≤ v) (h4 : v ≤ w) : hullLo a u w ≤ clsZ x v ∧ clsZ x v ≤ hullHi b u w := by
  unfold hullLo hullHi
  constructor
  · split <;> exact clsZ_mono h1 (by omega) (by omega)
  · split <;> exact clsZ_mono h2 (by omega) (by omega)
theorem hull_le {a b u w : Int} (h1 : a ≤ b) (h3 : u ≤ w) : hullLo a u w ≤ hullHi b u w := by
  have := hull_has (a := a) (b := b) (u := u) (w := w) (x := a) (v := u) (by omega) h1 (by omega) h3
  omega
theorem hull_min {a b u w : Int} (h1 : a ≤ b) (h3 : u ≤ w) : min (min (min (clsZ a u) (clsZ a w)) (clsZ b u)) (clsZ b w) = hullLo a u w := by
  have e1 := (hull_has (a := a) (b := b) (u := u) (w := w) (x := a) (v := u) (by omega) h1 (by omega) h3).1
  have e2 := (hull_has (a := a) (b := b) (u := u) (w := w) (x := a) (v := w) (by omega) h1 h3 (by omega)).1
  have e3 := (hull_has (a := a) (b := b) (u := u) (w := w) (x := b) (v := u) h1 (by omega) (by omega) h3).1
  have e4 := (hull_has (a := a) (b := b) (u := u) (w := w) (x := b) (v := w) h1 (by omega) h3 (by omega)).1
  have e5 : hullLo a u w = clsZ a u ∨ hullLo a u w = clsZ a w := by unfold hullLo; split <;> simp
  omega
theorem hull_max {a b u w : Int} (h1 : a ≤ b) (h3 : u ≤ w) : max (max (max (clsZ a u) (clsZ a w)) (clsZ b u)) (clsZ b w) = hullHi b u w := by
  have e1 := (hull_has (a := a) (b := b) (u := u) (w := w) (x := a) (v := u) (by omega) h1 (by omega) h3).2
  have e2 := (hull_has (a := a) (b := b) (u := u) (w := w) (x := a) (v := w) (by omega) h1 h3 (by omega)).2
  have e3 := (hull_has (a := a) (b := b) (u := u) (w := w) (x := b) (v := u) h1 (by omega) (by omega) h3).2
  have e4 := (hull_has (a := a) (b := b) (u := u) (w := w) (x := b) (v := w) h1 (by omega) h3 (by omega)).2
  have e5 : hullHi b u w = clsZ b u ∨ hullHi b u w = clsZ b w := by unfold hullHi; split <;> simp
  omega
theorem mask_shl {l g : Int} (hl : -4 ≤ l) (hg : g ≤ 4) (h : l ≤ g) : IntKind.i64.wrap (IntKind.i64.wrap (IntKind.i64.wrap (1 * 2 ^ min (g - l + 1).toNat IntKind.i64.bits) - 1) * 2 ^ min (l + 4).toNat IntKind.i64.bits) = maskZ l g := by
  have h1 := p2_pos (g - l + 1)
  have h2 := p2_le (n := g - l + 1) (m := 9) (by omega) (by omega)
  have h3 : p2 9 = 512 := rfl
  have h4 := p2_pos (l + 4)
  have h5 := p2_mul (n := g - l + 1) (m := l + 4) (by omega) (by omega)
  have h6 : g - l + 1 + (l + 4) = g + 5 := by omega
  have hm := maskZ_rng hl hg
  have e : (p2 (g - l + 1) - 1) * p2 (l + 4) = maskZ l g := by
    unfold maskZ
    rw [if_pos h, Int.sub_mul, h5, h6, Int.one_mul]
  rw [Int.one_mul, p2_deni (by omega) (by omega), p2_deni (by omega) (by omega), w64 (x := p2 (g - l + 1)) (by omega) (by omega), w64 (x := p2 (g - l + 1) - 1) (by omega) (by omega), e, w64 (by omega) (by omega)]
def hOK (a b hu lu hw lw : Int) : Prop := a ≤ b ∧ ¬ val hw lw < val hu lu ∧ hw < 1152921504606846976
instance decH (a b hu lu hw lw : Int) : Decidable (hOK a b hu lu hw lw) := by unfold hOK; exact inferInstance
def zhull_sp : SpecSh := { args := [(.agg [(.int .i64 (.z 0)), (.int .i64 (.z 0))]), (.agg [(.int .u64 (.z 0)), (.int .u64 (.z 0))]), (.agg [(.int .u64 (.z 0)), (.int .u64 (.z 0))])], res := (.tup [(.int .i64 (.z 0)), (.int .i64 (.z 0))]), sh := [.i (some (0, 511)), .i (some (0, 1))] }
set_option maxRecDepth 100000 in
def zhull_tree : Tree :=
.ite (.not (.cmp .le (.v 0) (.v 1))) (.ret (.tup [(.int .i64 (.z 0)), (.int .i64 (.z 1))])) <|
.call 83 [.b] [.i (.v 4), .i (.v 5), .i (.v 2), .i (.v 3)] <|
.ite (.v 6) (.ret (.tup [(.int .i64 (.z 0)), (.int .i64 (.z 1))])) <|
.ite (.cmp .le (.z 1152921504606846976) (.v 4)) (.ret (.tup [(.int .i64 (.z 0)), (.int .i64 (.z 1))])) <|
.call 149 [.i (some ((-4), 4))] [.i (.v 0), .i (.v 2), .i (.v 3)] <|
.call 149 [.i (some ((-4), 4))] [.i (.v 1), .i (.v 2), .i (.v 3)] <|
.ite (.cmp .lt (.z 0) (.v 0)) (.call 149 [.i (some ((-4), 4))] [.i (.v 0), .i (.v 4), .i (.v 5)] <|
.ite (.cmp .lt (.v 1) (.z 0)) (.call 149 [.i (some ((-4), 4))] [.i (.v 1), .i (.v 4), .i (.v 5)] <|
.lett (.sub (.v 10) (.v 9)) <|
.lett (.add (.v 11) (.z 1)) <|
.ite (.cmp .lt (.v 12) (.z 0)) (.bad 30) <|
.lett (.shl .i64 (.z 1) (.v 12)) <|
.lett (.subw .i64 (.v 13) (.z 1)) <|
.lett (.add (.v 9) (.z 4)) <|
.lett (.shl .i64 (.v 14) (.v 15)) <|
.ret (.tup [(.int .i64 (.v 16)), (.int .i64 (.z 0))])) <|
.lett (.sub (.v 8) (.v 9)) <|
.lett (.add (.v 10) (.z 1)) <|
.ite (.cmp .lt (.v 11) (.z 0)) (.bad 30) <|
.lett (.shl .i64 (.z 1) (.v 11)) <|
.lett (.subw .i64 (.v 12) (.z 1)) <|
.lett (.add (.v 9) (.z 4)) <|
.lett (.shl .i64 (.v 13) (.v 14)) <|
.ret (.tup [(.int .i64 (.v 15)), (.int .i64 (.z 0))])) <|
.ite (.cmp .lt (.v 1) (.z 0)) (.call 149 [.i (some ((-4), 4))] [.i (.v 1), .i (.v 4), .i (.v 5)] <|
.lett (.sub (.v 9) (.v 7)) <|
.lett (.add (.v 10) (.z 1)) <|
.ite (.cmp .lt (.v 11) (.z 0)) (.bad 30) <|
.lett (.shl .i64 (.z 1) (.v 11)) <|
.lett (.subw .i64 (.v 12) (.z 1)) <|
.lett (.add (.v 7) (.z 4)) <|
.lett (.shl .i64 (.v 13) (.v 14)) <|
.ret (.tup [(.int .i64 (.v 15)), (.int .i64 (.z 0))])) <|
.lett (.sub (.v 8) (.v 7)) <|
.lett (.add (.v 9) (.z 1)) <|
.ite (.cmp .lt (.v 10) (.z 0)) (.bad 30) <|
.lett (.shl .i64 (.z 1) (.v 10)) <|
.lett (.subw .i64 (.v 11) (.z 1)) <|
.lett (.add (.v 7) (.z 4)) <|
.lett (.shl .i64 (.v 12) (.v 13)) <|
.ret (.tup [(.int .i64 (.v 14)), (.int .i64 (.z 0))])
noncomputable def zhull_cx : Ctx := { tys := tys, fns := fns, sps := [(149, zclass_sp), (83, less_sp)], anns := [], trys := [] }
def zhull_ivs : List (Option (Int × Int)) := [some ((-9223372036854775808), 9223372036854775807), some ((-9223372036854775808), 9223372036854775807), some (0, 18446744073709551615), some (0, 18446744073709551615), some (0, 18446744073709551615), some (0, 18446744073709551615)]
set_option maxRecDepth 100000 in
theorem zhull_walk : runFn zhull_cx 3000 139 Try.f139 zhull_sp.args zhull_ivs = zhull_tree := by kernel_rfl
noncomputable def zhull_M : Nat → SpecSem
  | 149 => zclass_sem
  | 83 => less_sem
  | _ => noSem
theorem zhull_M149 : zhull_M 149 = zclass_sem := rfl
theorem zhull_M83 : zhull_M 83 = less_sem := rfl
theorem zhull_cxok : CxOK Try.prog zhull_cx zhull_M := ⟨tysOK, fnsOK, spCons zclass_ok <| spCons less_ok <| fun _ _ h => spNil h, mixedOK, fun _ _ h => trNil h⟩
set_option maxRecDepth 100000 in
set_option maxHeartbeats 8000000 in
theorem zhull_den (R RP : Value → Prop) (F : Ex → St → Js → Env → Prop) (J : Js) (x0 : Int) (x1 : Int) (x2 : Int) (x3 : Int) (x4 : Int) (x5 : Int) : Tree.den zhull_M R RP F zhull_tree J [(.i x0), (.i x1), (.i x2), (.i x3), (.i x4), (.i x5)] = (
  ((!(Cmp.den .le x0 x1)) = true → R (Value.tuple [(Value.int .i64 (0 : Int)), (Value.int .i64 (1 : Int))].toArray)) ∧ ((!(Cmp.den .le x0 x1)) = false → (less_sem.pre [(.i x4), (.i x5), (.i x2), (.i x3)]) ∧ (
((Cv.bool (Env.get (less_sem.out [(.i x4), (.i x5), (.i x2), (.i x3)]) 0)) = true → R (Value.tuple [(Value.int .i64 (0 : Int)), (Value.int .i64 (1 : Int))].toArray)) ∧ ((Cv.bool (Env.get (less_sem.out [(.i x4), (.i x5), (.i x2), (.i x3)]) 0)) = false → ((Cmp.den .le (1152921504606846976 : Int) x4) = true → R (Value.tuple [(Value.int .i64 (0 : Int)), (Value.int .i64 (1 : Int))].toArray)) ∧ ((Cmp.den .le (1152921504606846976 : Int) x4) = false → (zclass_sem.pre [(.i x0), (.i x2), (.i x3)]) ∧ (
∀ x7 : Int, x7 = (Cv.int (Env.get (zclass_sem.out [(.i x0), (.i x2), (.i x3)]) 0)) → (-4 : Int) ≤ x7 → x7 ≤ (4 : Int) →
(zclass_sem.pre [(.i x1), (.i x2), (.i x3)]) ∧ (
∀ x8 : Int, x8 = (Cv.int (Env.get (zclass_sem.out [(.i x1), (.i x2), (.i x3)]) 0)) → (-4 : Int) ≤ x8 → x8 ≤ (4 : Int) →
((Cmp.den .lt (0 : Int) x0) = true → (zclass_sem.pre [(.i x0), (.i x4), (.i x5)]) ∧ (
∀ x9 : Int, x9 = (Cv.int (Env.get (zclass_sem.out [(.i x0), (.i x4), (.i x5)]) 0)) → (-4 : Int) ≤ x9 → x9 ≤ (4 : Int) →
((Cmp.den .lt x1 (0 : Int)) = true → (zclass_sem.pre [(.i x1), (.i x4), (.i x5)]) ∧ (
∀ x10 : Int, x10 = (Cv.int (Env.get (zclass_sem.out [(.i x1), (.i x4), (.i x5)]) 0)) → (-4 : Int) ≤ x10 → x10 ≤ (4 : Int) →
∀ x11 : Int, x11 = (x10 - x9) →
∀ x12 : Int, x12 = (x11 + (1 : Int)) →
((Cmp.den .lt x12 (0 : Int)) = true → False) ∧ ((Cmp.den .lt x12 (0 : Int)) = false → ∀ x13 : Int, x13 = (IntKind.i64.wrap ((1 : Int) * 2 ^ (min (Int.toNat x12) (IntKind.i64).bits))) →
∀ x14 : Int, x14 = (IntKind.i64.wrap (x13 - (1 : Int))) →
∀ x15 : Int, x15 = (x9 + (4 : Int)) →
∀ x16 : Int, x16 = (IntKind.i64.wrap (x14 * 2 ^ (min (Int.toNat x15) (IntKind.i64).bits))) →
R (Value.tuple [(Value.int .i64 x16), (Value.int .i64 (0 : Int))].toArray)))) ∧ ((Cmp.den .lt x1 (0 : Int)) = false → ∀ x10 : Int, x10 = (x8 - x9) →
∀ x11 : Int, x11 = (x10 + (1 : Int)) →
((Cmp.den .lt x11 (0 : Int)) = true → False) ∧ ((Cmp.den .lt x11 (0 : Int)) = false → ∀ x12 : Int, x12 = (IntKind.i64.wrap ((1 : Int) * 2 ^ (min (Int.toNat x11) (IntKind.i64).bits))) →
∀ x13 : Int, x13 = (IntKind.i64.wrap (x12 - (1 : Int))) →
∀ x14 : Int, x14 = (x9 + (4 : Int)) →
∀ x15 : Int, x15 = (IntKind.i64.wrap (x13 * 2 ^ (min (Int.toNat x14) (IntKind.i64).bits))) →
R (Value.tuple [(Value.int .i64 x15), (Value.int .i64 (0 : Int))].toArray))))) ∧ ((Cmp.den .lt (0 : Int) x0) = false → ((Cmp.den .lt x1 (0 : Int)) = true → (zclass_sem.pre [(.i x1), (.i x4), (.i x5)]) ∧ (
∀ x9 : Int, x9 = (Cv.int (Env.get (zclass_sem.out [(.i x1), (.i x4), (.i x5)]) 0)) → (-4 : Int) ≤ x9 → x9 ≤ (4 : Int) →
∀ x10 : Int, x10 = (x9 - x7) →
∀ x11 : Int, x11 = (x10 + (1 : Int)) →
((Cmp.den .lt x11 (0 : Int)) = true → False) ∧ ((Cmp.den .lt x11 (0 : Int)) = false → ∀ x12 : Int, x12 = (IntKind.i64.wrap ((1 : Int) * 2 ^ (min (Int.toNat x11) (IntKind.i64).bits))) →
∀ x13 : Int, x13 = (IntKind.i64.wrap (x12 - (1 : Int))) →
∀ x14 : Int, x14 = (x7 + (4 : Int)) →
∀ x15 : Int, x15 = (IntKind.i64.wrap (x13 * 2 ^ (min (Int.toNat x14) (IntKind.i64).bits))) →
R (Value.tuple [(Value.int .i64 x15), (Value.int .i64 (0 : Int))].toArray)))) ∧ ((Cmp.den .lt x1 (0 : Int)) = false → ∀ x9 : Int, x9 = (x8 - x7) →
∀ x10 : Int, x10 = (x9 + (1 : Int)) →
((Cmp.den .lt x10 (0 : Int)) = true → False) ∧ ((Cmp.den .lt x10 (0 : Int)) = false → ∀ x11 : Int, x11 = (IntKind.i64.wrap ((1 : Int) * 2 ^ (min (Int.toNat x10) (IntKind.i64).bits))) →
∀ x12 : Int, x12 = (IntKind.i64.wrap (x11 - (1 : Int))) →
∀ x13 : Int, x13 = (x7 + (4 : Int)) →
∀ x14 : Int, x14 = (IntKind.i64.wrap (x12 * 2 ^ (min (Int.toNat x13) (IntKind.i64).bits))) →
R (Value.tuple [(Value.int .i64 x14), (Value.int .i64 (0 : Int))].toArray))))))))))) := by kernel_rfl

def zhull_sem : SpecSem := { pre := fun cs => match cs with | [.i a, .i b, .i hu, .i lu, .i hw, .i lw] => IsI a ∧ IsI b ∧ IsU hu ∧ IsU lu ∧ IsU hw ∧ IsU lw | _ => False, out := fun cs => match cs with | [.i a, .i b, .i hu, .i lu, .i hw, .i lw] => [.i (if hOK a b hu lu hw lw then maskZ (hullLo a (val hu lu) (val hw lw)) (hullHi b (val hu lu) (val hw lw)) else 0), .i (if hOK a b hu lu hw lw then 0 else 1)] | _ => [] }
set_option maxRecDepth 10000 in
set_option maxHeartbeats 16000000 in
theorem zhull_ok : SpecOK Try.prog 139 zhull_sp zhull_sem := by
  refine spec_of_tree zhull_cxok Try.func139 (by kernel_rfl) (by kernel_rfl) zhull_walk rfl ?_
  intro cs hpre
  match cs, hpre with
  | [.i a, .i b, .i hu, .i lu, .i hw, .i lw], ⟨j_a, j_b, j_hu, j_lu, j_hw, j_lw⟩ =>
    have h_a := j_a
    unfold IsI at h_a
    have h_b := j_b
    unfold IsI at h_b
    have h_hu := j_hu
    unfold IsU at h_hu
    have h_lu := j_lu
    unfold IsU at h_lu
    have h_hw := j_hw
    unfold IsU at h_hw
    have h_lw := j_lw
    unfold IsU at h_lw
    refine ⟨rfl, IvsB.ok (by simp only [zhull_ivs, IvsB, Cv.int, and_true] <;> omega), ?_, ?_⟩
    · simp only [zhull_sem, zhull_sp, Fits, and_true]
      obtain ⟨⟨r1, r2⟩, r3, r4⟩ := hull_rng a b (val hu lu) (val hw lw)
      have := maskZ_rng r1 r4
      split <;> omega
    · rw [zhull_den]
      simp only [zhull_sem, zhull_sp, zhull_den, zclass_sem, less_sem, Tree.den, LE.den, Cv.list, placeA, List.getElem?_cons_zero, List.getElem?_cons_succ, IE.den, BE.den, At.den, CA.den, Env.get, Cv.int, Cv.bool, List.cons_append, List.nil_append, List.map_cons, List.map_nil, bindRes, bindEq, Fits, SV.den, denL, place, placeL, eq_t, eq_f, lt_t, lt_f, le_t, le_f, beq_iff_eq, beq_eq_false_iff_ne, ne_eq, reduceCtorEq, b_dec, decide_eq_true_eq, decide_eq_false_iff_not, Bool.not_eq_false', Bool.or_eq_true, Bool.or_eq_false_iff, Bool.and_eq_false_iff, true_iff, false_iff, Bool.false_eq_true, Bool.not_eq_true', Bool.and_eq_true, Bool.not_true, Bool.not_false, List.cons.injEq, Cv.i.injEq, Cv.b.injEq, and_true, true_and, agg_inj, tup_inj, Value.int.injEq, Value.bool.injEq]
      by_cases hr : hOK a b hu lu hw lw
      · obtain ⟨hr1, hr2, hr3⟩ := id hr
        obtain ⟨⟨r1, r2⟩, r3, r4⟩ := hull_rng a b (val hu lu) (val hw lw)
        have hLH := hull_le (a := a) (b := b) (u := val hu lu) (w := val hw lw) hr1 (by omega)
        have M := mask_shl r1 r4 hLH
        have hu60 : hu < 1152921504606846976 := by unfold val at hr2; omega
        have t1 := clsZ_rng a (val hu lu)
        have t2 := clsZ_rng a (val hw lw)
        have t3 := clsZ_rng b (val hu lu)
        have t4 := clsZ_rng b (val hw lw)
        by_cases pa : 0 < a <;> by_cases pb : b < 0
        all_goals
          simp only [hullLo, hullHi, pa, pb, if_true, if_false, true_and, and_true, false_and, and_false, true_or, or_true, false_or, or_false, true_iff, iff_true, false_iff, iff_false, not_true_eq_false, not_false_eq_true, true_implies, false_implies, implies_true, forall_const, decide_true, decide_false, reduceCtorEq] at M hLH
          simp only [hullLo, hullHi, hr, hr1, hr2, hr3, hu60, pa, pb, t1, t2, t3, t4, j_a, j_b, j_hu, j_lu, j_hw, j_lw, forall_eq, M, if_true, if_false, true_and, and_true, false_and, and_false, true_or, or_true, false_or, or_false, true_iff, iff_true, false_iff, iff_false, not_true_eq_false, not_false_eq_true, true_implies, false_implies, implies_true, forall_const, decide_true, decide_false, reduceCtorEq]
          clear M
          (repeat' (first | intro _ | refine And.intro ?_ ?_ | exact trivial)) <;> omega
      · simp only [hr, if_true, if_false, true_and, and_true, false_and, and_false, true_or, or_true, false_or, or_false, true_iff, iff_true, false_iff, iff_false, not_true_eq_false, not_false_eq_true, true_implies, false_implies, implies_true, forall_const, decide_true, decide_false, reduceCtorEq]
        unfold hOK at hr
        exact fun k1 => ⟨⟨j_hw, j_lw, j_hu, j_lu⟩, fun k2 k3 => absurd ⟨k1, k2, k3⟩ hr⟩
/-! ### the reference -/


def r1less_sp : SpecSh := { args := [(.agg [(.int .u64 (.z 0)), (.int .u64 (.z 0))]), (.agg [(.int .u64 (.z 0)), (.int .u64 (.z 0))])], res := (.bool .f), sh := [.b] }
set_option maxRecDepth 100000 in
def r1less_tree : Tree :=
.ite (.not (.cmp .eq (.v 0) (.v 2))) (.ret (.bool (.cmp .lt (.v 0) (.v 2)))) <|
.ret (.bool (.cmp .lt (.v 1) (.v 3)))
noncomputable def r1less_cx : Ctx := { tys := tys, fns := fns, sps := [], anns := [], trys := [] }
def r1less_ivs : List (Option (Int × Int)) := [some (0, 18446744073709551615), some (0, 18446744073709551615), some (0, 18446744073709551615), some (0, 18446744073709551615)]
set_option maxRecDepth 100000 in
theorem r1less_walk : runFn r1less_cx 3000 171 Try.f171 r1less_sp.args r1less_ivs = r1less_tree := by kernel_rfl
noncomputable def r1less_M : Nat → SpecSem
  | _ => noSem
theorem r1less_cxok : CxOK Try.prog r1less_cx r1less_M := ⟨tysOK, fnsOK, fun _ _ h => spNil h, mixedOK, fun _ _ h => trNil h⟩

def r1less_sem : SpecSem := { pre := fun cs => match cs with | [.i a, .i b, .i c, .i d] => IsU a ∧ IsU b ∧ IsU c ∧ IsU d | _ => False, out := fun cs => match cs with | [.i a, .i b, .i c, .i d] => [.b (decide (val a b < val c d))] | _ => [] }
set_option maxRecDepth 10000 in
set_option maxHeartbeats 16000000 in
theorem r1less_ok : SpecOK Try.prog 171 r1less_sp r1less_sem := by
  refine spec_of_tree r1less_cxok Try.func171 (by kernel_rfl) (by kernel_rfl) r1less_walk rfl ?_
  intro cs hpre
  match cs, hpre with
  | [.i a, .i b, .i c, .i d], ⟨j_a, j_b, j_c, j_d⟩ =>
    have h_a := j_a
    unfold IsU at h_a
    have h_b := j_b
    unfold IsU at h_b
    have h_c := j_c
    unfold IsU at h_c
    have h_d := j_d
    unfold IsU at h_d
    refine ⟨rfl, IvsB.ok (by simp only [r1less_ivs, IvsB, Cv.int, and_true] <;> omega), ?_, ?_⟩
    · simp only [r1less_sem, r1less_sp, Fits]
    · simp only [r1less_sem, r1less_sp, r1less_tree, Tree.den, LE.den, Cv.list, placeA, List.getElem?_cons_zero, List.getElem?_cons_succ, IE.den, BE.den, At.den, CA.den, Env.get, Cv.int, Cv.bool, List.cons_append, List.nil_append, List.map_cons, List.map_nil, bindRes, bindEq, Fits, SV.den, denL, place, placeL, eq_t, eq_f, lt_t, lt_f, le_t, le_f, beq_iff_eq, beq_eq_false_iff_ne, ne_eq, reduceCtorEq, b_dec, decide_eq_true_eq, decide_eq_false_iff_not, Bool.not_eq_false', Bool.or_eq_true, Bool.or_eq_false_iff, Bool.and_eq_false_iff, true_iff, false_iff, Bool.false_eq_true, Bool.not_eq_true', Bool.and_eq_true, Bool.not_true, Bool.not_false, List.cons.injEq, Cv.i.injEq, Cv.b.injEq, and_true, true_and, agg_inj, tup_inj, Value.int.injEq, Value.bool.injEq]
      unfold val
      (repeat' (first | intro _ | refine And.intro ?_ ?_ | exact trivial)) <;> omega

def r13class_sp : SpecSh := { args := [(.int .i64 (.z 0)), (.agg [(.int .u64 (.z 0)), (.int .u64 (.z 0))])], res := (.int .i64 (.z 0)), sh := [.i (some ((-4), 4))] }
set_option maxRecDepth 100000 in
def r13class_tree : Tree :=
.ite (.cmp .eq (.v 0) (.z 0)) (.ret (.int .i64 (.z 0))) <|
.call 131 [.b, .i (some (0, 18446744073709551615)), .i (some (0, 18446744073709551615))] [.i (.v 0), .i (.v 0)] <|
.call 128 [.i (some (0, 18446744073709551615)), .i (some (0, 18446744073709551615)), .b] [.i (.z 0), .i (.z 1), .i (.v 1), .i (.v 2)] <|
.call 171 [.b] [.i (.v 6), .i (.v 7), .i (.v 4), .i (.v 5)] <|
.lett (.ite (.v 9) (.z 2) (.z 1)) <|
.call 128 [.i (some (0, 18446744073709551615)), .i (some (0, 18446744073709551615)), .b] [.i (.z 0), .i (.z 4), .i (.v 1), .i (.v 2)] <|
.call 171 [.b] [.i (.v 11), .i (.v 12), .i (.v 4), .i (.v 5)] <|
.ite (.v 14) (.lett (.add (.v 10) (.z 1)) <|
.call 128 [.i (some (0, 18446744073709551615)), .i (some (0, 18446744073709551615)), .b] [.i (.z 0), .i (.z 9), .i (.v 1), .i (.v 2)] <|
.call 171 [.b] [.i (.v 16), .i (.v 17), .i (.v 4), .i (.v 5)] <|
.ite (.v 19) (.lett (.add (.v 15) (.z 1)) <|
.ite (.cmp .lt (.v 0) (.z 0)) (.lett (.sub (.z 0) (.v 20)) <|
.ret (.int .i64 (.v 21))) <|
.ret (.int .i64 (.v 20))) <|
.ite (.cmp .lt (.v 0) (.z 0)) (.lett (.sub (.z 0) (.v 15)) <|
.ret (.int .i64 (.v 20))) <|
.ret (.int .i64 (.v 15))) <|
.call 128 [.i (some (0, 18446744073709551615)), .i (some (0, 18446744073709551615)), .b] [.i (.z 0), .i (.z 9), .i (.v 1), .i (.v 2)] <|
.call 171 [.b] [.i (.v 15), .i (.v 16), .i (.v 4), .i (.v 5)] <|
.ite (.v 18) (.lett (.add (.v 10) (.z 1)) <|
.ite (.cmp .lt (.v 0) (.z 0)) (.lett (.sub (.z 0) (.v 19)) <|
.ret (.int .i64 (.v 20))) <|
.ret (.int .i64 (.v 19))) <|
.ite (.cmp .lt (.v 0) (.z 0)) (.lett (.sub (.z 0) (.v 10)) <|
.ret (.int .i64 (.v 19))) <|
.ret (.int .i64 (.v 10))
noncomputable def r13class_cx : Ctx := { tys := tys, fns := fns, sps := [(131, r4prod_sp), (128, rtimes_sp), (171, r1less_sp)], anns := [], trys := [] }
def r13class_ivs : List (Option (Int × Int)) := [some ((-9223372036854775808), 9223372036854775807), some (0, 18446744073709551615), some (0, 18446744073709551615)]
set_option maxRecDepth 100000 in
theorem r13class_walk : runFn r13class_cx 3000 178 Try.f178 r13class_sp.args r13class_ivs = r13class_tree := by kernel_rfl
noncomputable def r13class_M : Nat → SpecSem
  | 131 => r4prod_sem
  | 128 => rtimes_sem
  | 171 => r1less_sem
  | _ => noSem
theorem r13class_M131 : r13class_M 131 = r4prod_sem := rfl
theorem r13class_M128 : r13class_M 128 = rtimes_sem := rfl
theorem r13class_M171 : r13class_M 171 = r1less_sem := rfl
theorem r13class_cxok : CxOK Try.prog r13class_cx r13class_M := ⟨tysOK, fnsOK, spCons r4prod_ok <| spCons rtimes_ok <| spCons r1less_ok <| fun _ _ h => spNil h, mixedOK, fun _ _ h => trNil h⟩
set_option maxRecDepth 100000 in
set_option maxHeartbeats 8000000 in
theorem r13class_den (R RP : Value → Prop) (F : Ex → St → Js → Env → Prop) (J : Js) (x0 : Int) (x1 : Int) (x2 : Int) : Tree.den r13class_M R RP F r13class_tree J [(.i x0), (.i x1), (.i x2)] = (
  ((Cmp.den .eq x0 (0 : Int)) = true → R (Value.int .i64 (0 : Int))) ∧ ((Cmp.den .eq x0 (0 : Int)) = false → (r4prod_sem.pre [(.i x0), (.i x0)]) ∧ (
∀ x4 : Int, x4 = (Cv.int (Env.get (r4prod_sem.out [(.i x0), (.i x0)]) 1)) → (0 : Int) ≤ x4 → x4 ≤ (18446744073709551615 : Int) →
∀ x5 : Int, x5 = (Cv.int (Env.get (r4prod_sem.out [(.i x0), (.i x0)]) 2)) → (0 : Int) ≤ x5 → x5 ≤ (18446744073709551615 : Int) →
(rtimes_sem.pre [(.i (0 : Int)), (.i (1 : Int)), (.i x1), (.i x2)]) ∧ (
∀ x6 : Int, x6 = (Cv.int (Env.get (rtimes_sem.out [(.i (0 : Int)), (.i (1 : Int)), (.i x1), (.i x2)]) 0)) → (0 : Int) ≤ x6 → x6 ≤ (18446744073709551615 : Int) →
∀ x7 : Int, x7 = (Cv.int (Env.get (rtimes_sem.out [(.i (0 : Int)), (.i (1 : Int)), (.i x1), (.i x2)]) 1)) → (0 : Int) ≤ x7 → x7 ≤ (18446744073709551615 : Int) →
(r1less_sem.pre [(.i x6), (.i x7), (.i x4), (.i x5)]) ∧ (
∀ x10 : Int, x10 = (if (Cv.bool (Env.get (r1less_sem.out [(.i x6), (.i x7), (.i x4), (.i x5)]) 0)) = true then (2 : Int) else (1 : Int)) →
(rtimes_sem.pre [(.i (0 : Int)), (.i (4 : Int)), (.i x1), (.i x2)]) ∧ (
∀ x11 : Int, x11 = (Cv.int (Env.get (rtimes_sem.out [(.i (0 : Int)), (.i (4 : Int)), (.i x1), (.i x2)]) 0)) → (0 : Int) ≤ x11 → x11 ≤ (18446744073709551615 : Int) →
∀ x12 : Int, x12 = (Cv.int (Env.get (rtimes_sem.out [(.i (0 : Int)), (.i (4 : Int)), (.i x1), (.i x2)]) 1)) → (0 : Int) ≤ x12 → x12 ≤ (18446744073709551615 : Int) →
(r1less_sem.pre [(.i x11), (.i x12), (.i x4), (.i x5)]) ∧ (
((Cv.bool (Env.get (r1less_sem.out [(.i x11), (.i x12), (.i x4), (.i x5)]) 0)) = true → ∀ x15 : Int, x15 = (x10 + (1 : Int)) →
(rtimes_sem.pre [(.i (0 : Int)), (.i (9 : Int)), (.i x1), (.i x2)]) ∧ (
∀ x16 : Int, x16 = (Cv.int (Env.get (rtimes_sem.out [(.i (0 : Int)), (.i (9 : Int)), (.i x1), (.i x2)]) 0)) → (0 : Int) ≤ x16 → x16 ≤ (18446744073709551615 : Int) →
∀ x17 : Int, x17 = (Cv.int (Env.get (rtimes_sem.out [(.i (0 : Int)), (.i (9 : Int)), (.i x1), (.i x2)]) 1)) → (0 : Int) ≤ x17 → x17 ≤ (18446744073709551615 : Int) →
(r1less_sem.pre [(.i x16), (.i x17), (.i x4), (.i x5)]) ∧ (
((Cv.bool (Env.get (r1less_sem.out [(.i x16), (.i x17), (.i x4), (.i x5)]) 0)) = true → ∀ x20 : Int, x20 = (x15 + (1 : Int)) →
((Cmp.den .lt x0 (0 : Int)) = true → ∀ x21 : Int, x21 = ((0 : Int) - x20) →
R (Value.int .i64 x21)) ∧ ((Cmp.den .lt x0 (0 : Int)) = false → R (Value.int .i64 x20))) ∧ ((Cv.bool (Env.get (r1less_sem.out [(.i x16), (.i x17), (.i x4), (.i x5)]) 0)) = false → ((Cmp.den .lt x0 (0 : Int)) = true → ∀ x20 : Int, x20 = ((0 : Int) - x15) →
R (Value.int .i64 x20)) ∧ ((Cmp.den .lt x0 (0 : Int)) = false → R (Value.int .i64 x15)))))) ∧ ((Cv.bool (Env.get (r1less_sem.out [(.i x11), (.i x12), (.i x4), (.i x5)]) 0)) = false → (rtimes_sem.pre [(.i (0 : Int)), (.i (9 : Int)), (.i x1), (.i x2)]) ∧ (
∀ x15 : Int, x15 = (Cv.int (Env.get (rtimes_sem.out [(.i (0 : Int)), (.i (9 : Int)), (.i x1), (.i x2)]) 0)) → (0 : Int) ≤ x15 → x15 ≤ (18446744073709551615 : Int) →
∀ x16 : Int, x16 = (Cv.int (Env.get (rtimes_sem.out [(.i (0 : Int)), (.i (9 : Int)), (.i x1), (.i x2)]) 1)) → (0 : Int) ≤ x16 → x16 ≤ (18446744073709551615 : Int) →
(r1less_sem.pre [(.i x15), (.i x16), (.i x4), (.i x5)]) ∧ (
((Cv.bool (Env.get (r1less_sem.out [(.i x15), (.i x16), (.i x4), (.i x5)]) 0)) = true → ∀ x19 : Int, x19 = (x10 + (1 : Int)) →
((Cmp.den .lt x0 (0 : Int)) = true → ∀ x20 : Int, x20 = ((0 : Int) - x19) →
R (Value.int .i64 x20)) ∧ ((Cmp.den .lt x0 (0 : Int)) = false → R (Value.int .i64 x19))) ∧ ((Cv.bool (Env.get (r1less_sem.out [(.i x15), (.i x16), (.i x4), (.i x5)]) 0)) = false → ((Cmp.den .lt x0 (0 : Int)) = true → ∀ x19 : Int, x19 = ((0 : Int) - x10) →
R (Value.int .i64 x19)) ∧ ((Cmp.den .lt x0 (0 : Int)) = false → R (Value.int .i64 x10))))))))))))) := by kernel_rfl

def r13class_sem : SpecSem := { pre := fun cs => match cs with | [.i d, .i h, .i l] => IsI d ∧ IsU h ∧ IsU l ∧ (h < 1152921504606846976) | _ => False, out := fun cs => match cs with | [.i d, .i h, .i l] => [.i (clsZ d (val h l))] | _ => [] }
set_option maxRecDepth 10000 in
set_option maxHeartbeats 16000000 in
theorem r13class_ok : SpecOK Try.prog 178 r13class_sp r13class_sem := by
  refine spec_of_tree r13class_cxok Try.func178 (by kernel_rfl) (by kernel_rfl) r13class_walk rfl ?_
  intro cs hpre
  match cs, hpre with
  | [.i d, .i h, .i l], ⟨j_d, j_h, j_l, hx⟩ =>
    have h_d := j_d
    unfold IsI at h_d
    have h_h := j_h
    unfold IsU at h_h
    have h_l := j_l
    unfold IsU at h_l
    refine ⟨rfl, IvsB.ok (by simp only [r13class_ivs, IvsB, Cv.int, and_true] <;> omega), ?_, ?_⟩
    · simp only [r13class_sem, r13class_sp, Fits, and_true]; exact clsZ_rng _ _
    · have hq := sq_i j_d
      have habs : absZ d * absZ d = d * d := by unfold absZ; split <;> first | rfl | exact Int.neg_mul_neg d d
      rw [r13class_den]
      have hv : 0 ≤ val h l ∧ val h l < 21267647932558653966460912964485513216 := by unfold val; omega
      have e1 := vq2 (x := 1 * val h l) (by omega) (by omega)
      have e4 := vq2 (x := 4 * val h l) (by omega) (by omega)
      have e9 := vq2 (x := 9 * val h l) (by omega) (by omega)
      simp only [r13class_sem, r13class_sp, clsZ, clsN, IsU, v01, v04, v09, forall_eq, habs, j_d, r13class_den, r4prod_sem, rtimes_sem, r1less_sem, Tree.den, LE.den, Cv.list, placeA, List.getElem?_cons_zero, List.getElem?_cons_succ, IE.den, BE.den, At.den, CA.den, Env.get, Cv.int, Cv.bool, List.cons_append, List.nil_append, List.map_cons, List.map_nil, bindRes, bindEq, Fits, SV.den, denL, place, placeL, eq_t, eq_f, lt_t, lt_f, le_t, le_f, beq_iff_eq, beq_eq_false_iff_ne, ne_eq, reduceCtorEq, b_dec, decide_eq_true_eq, decide_eq_false_iff_not, Bool.not_eq_false', Bool.or_eq_true, Bool.or_eq_false_iff, Bool.and_eq_false_iff, true_iff, false_iff, Bool.false_eq_true, Bool.not_eq_true', Bool.and_eq_true, Bool.not_true, Bool.not_false, List.cons.injEq, Cv.i.injEq, Cv.b.injEq, and_true, true_and, agg_inj, tup_inj, Value.int.injEq, Value.bool.injEq]
      simp only [vq, e1, e4, e9]
      generalize d * d = q at *
      generalize val h l = v at *
      clear e1 e4 e9 habs
      (repeat' (first | intro _ | refine And.intro ?_ ?_ | exact trivial)) <;> omega
def btI (l g : Int) : List Cv → Prop := fun x => match x with
  | [.i m, .i c] => (-4 ≤ c ∧ c ≤ 5) ∧ l ≤ c ∧ (c ≤ g + 1 ∨ g < l ∧ c = l) ∧ m = p2 (c + 4) - p2 (l + 4)
  | _ => False
def btM : List Cv → Nat := fun x => match x with | [.i _, .i c] => (5 - c).toNat | _ => 0
def r13bt_sp : SpecSh := { args := [(.int .i64 (.z 0)), (.int .i64 (.z 0))], res := (.int .i64 (.z 0)), sh := [.i (some (0, 511))] }
set_option maxRecDepth 100000 in
def r13bt_tree : Tree :=
.loop [.i (some (0, 511)), .i (some ((-4), 5))] [.i (.z 0), .i (.v 0)] <|
.ite (.cmp .le (.v 3) (.v 1)) (.lett (.add (.v 3) (.z 4)) <|
.lett (.shl .i64 (.z 1) (.v 4)) <|
.lett (.addw .i64 (.v 2) (.v 5)) <|
.lett (.add (.v 3) (.z 1)) <|
.again 0 [.i (.v 6), .i (.v 7)]) <|
.ret (.int .i64 (.v 2))
noncomputable def r13bt_cx : Ctx := { tys := tys, fns := fns, sps := [], anns := [((179, 3), { slots := [5, 6], cells := [], ivs := [some (0, 511), some ((-4), 5)] })], trys := [] }
def r13bt_ivs : List (Option (Int × Int)) := [some ((-4), 4), some ((-4), 4)]
set_option maxRecDepth 100000 in
theorem r13bt_walk : runFn r13bt_cx 3000 179 Try.f179 r13bt_sp.args r13bt_ivs = r13bt_tree := by kernel_rfl
noncomputable def r13bt_M : Nat → SpecSem
  | _ => noSem
theorem r13bt_cxok : CxOK Try.prog r13bt_cx r13bt_M := ⟨tysOK, fnsOK, fun _ _ h => spNil h, mixedOK, fun _ _ h => trNil h⟩
set_option maxRecDepth 100000 in
set_option maxHeartbeats 8000000 in
theorem r13bt_den (R RP : Value → Prop) (F : Ex → St → Js → Env → Prop) (x0 : Int) (x1 : Int) : Tree.den r13bt_M R RP F r13bt_tree [] [(.i x0), (.i x1)] = (
  ∃ (I0 : List Cv → Prop) (mu0 : List Cv → Nat), Fits [.i (some ((0), (511))), .i (some ((-4), (5)))] [(.i (0 : Int)), (.i x0)] ∧ I0 [(.i (0 : Int)), (.i x0)] ∧ (
∀ x2 : Int, (0 : Int) ≤ x2 → x2 ≤ (511 : Int) → ∀ x3 : Int, (-4 : Int) ≤ x3 → x3 ≤ (5 : Int) → I0 [.i x2, .i x3] →
((Cmp.den .le x3 x1) = true → ∀ x4 : Int, x4 = (x3 + (4 : Int)) →
∀ x5 : Int, x5 = (IntKind.i64.wrap ((1 : Int) * 2 ^ (min (Int.toNat x4) (IntKind.i64).bits))) →
∀ x6 : Int, x6 = (IntKind.i64.wrap (x2 + x5)) →
∀ x7 : Int, x7 = (x3 + (1 : Int)) →
Fits [.i (some ((0), (511))), .i (some ((-4), (5)))] [(.i x6), (.i x7)] ∧ I0 [(.i x6), (.i x7)] ∧ mu0 [(.i x6), (.i x7)] < mu0 [.i x2, .i x3]) ∧ ((Cmp.den .le x3 x1) = false → R (Value.int .i64 x2)))) := by kernel_rfl

def r13bt_sem : SpecSem := { pre := fun cs => match cs with | [.i l, .i g] => IsI l ∧ IsI g ∧ ((-4 ≤ l ∧ l ≤ 4) ∧ (-4 ≤ g ∧ g ≤ 4)) | _ => False, out := fun cs => match cs with | [.i l, .i g] => [.i (maskZ l g)] | _ => [] }
set_option maxRecDepth 10000 in
set_option maxHeartbeats 16000000 in
theorem r13bt_ok : SpecOK Try.prog 179 r13bt_sp r13bt_sem := by
  refine spec_of_tree r13bt_cxok Try.func179 (by kernel_rfl) (by kernel_rfl) r13bt_walk rfl ?_
  intro cs hpre
  match cs, hpre with
  | [.i l, .i g], ⟨j_l, j_g, hx⟩ =>
    have h_l := j_l
    unfold IsI at h_l
    have h_g := j_g
    unfold IsI at h_g
    refine ⟨rfl, IvsB.ok (by simp only [r13bt_ivs, IvsB, Cv.int, and_true] <;> omega), ?_, ?_⟩
    · simp only [r13bt_sem, r13bt_sp, Fits, and_true]; exact maskZ_rng hx.1.1 hx.2.2
    · rw [r13bt_den]
      simp only [r13bt_sem, r13bt_sp, r13bt_den, Tree.den, LE.den, Cv.list, placeA, List.getElem?_cons_zero, List.getElem?_cons_succ, IE.den, BE.den, At.den, CA.den, Env.get, Cv.int, Cv.bool, List.cons_append, List.nil_append, List.map_cons, List.map_nil, bindRes, bindEq, Fits, SV.den, denL, place, placeL, eq_t, eq_f, lt_t, lt_f, le_t, le_f, beq_iff_eq, beq_eq_false_iff_ne, ne_eq, reduceCtorEq, b_dec, decide_eq_true_eq, decide_eq_false_iff_not, Bool.not_eq_false', Bool.or_eq_true, Bool.or_eq_false_iff, Bool.and_eq_false_iff, true_iff, false_iff, Bool.false_eq_true, Bool.not_eq_true', Bool.and_eq_true, Bool.not_true, Bool.not_false, List.cons.injEq, Cv.i.injEq, Cv.b.injEq, and_true, true_and, agg_inj, tup_inj, Value.int.injEq, Value.bool.injEq]
      refine ⟨btI l g, btM, by omega, ?_, ?_⟩
      · simp only [btI]; exact ⟨by omega, by omega, (Decidable.em (l ≤ g + 1)).imp id (fun q => ⟨by omega, trivial⟩), by omega⟩
      · intro m m0 m1 c c0 c1 hI
        simp only [btI] at hI
        obtain ⟨_, h1, h2, h3⟩ := hI
        refine ⟨fun hc => ?_, fun hc => ?_⟩
        · have q1 := p2_succ (n := c + 4) (by omega)
          have q2 : c + 4 + 1 = c + 1 + 4 := by omega
          rw [q2] at q1
          have q3 := p2_le (n := c + 4) (m := 8) (by omega) (by omega)
          have q4 : p2 8 = 256 := rfl
          have q5 := p2_pos (c + 4)
          have q6 := p2_pos (l + 4)
          simp only [forall_eq, Int.one_mul, btI, btM]
          rw [p2_deni (by omega) (by omega), w64 (x := p2 (c + 4)) (by omega) (by omega), w64 (by omega) (by omega)]
          refine ⟨by omega, ⟨by omega, by omega, by omega, by omega⟩, by omega⟩
        · unfold maskZ
          split
          · have : c + 4 = g + 5 := by omega
            rw [h3, this]
          · have : c = l := by omega
            rw [h3, this]; omega


def r13hull_sp : SpecSh := { args := [(.agg [(.int .i64 (.z 0)), (.int .i64 (.z 0))]), (.agg [(.int .u64 (.z 0)), (.int .u64 (.z 0))]), (.agg [(.int .u64 (.z 0)), (.int .u64 (.z 0))])], res := (.int .i64 (.z 0)), sh := [.i (some (0, 511))] }
set_option maxRecDepth 100000 in
def r13hull_tree : Tree :=
.call 178 [.i (some ((-4), 4))] [.i (.v 0), .i (.v 2), .i (.v 3)] <|
.call 178 [.i (some ((-4), 4))] [.i (.v 0), .i (.v 2), .i (.v 3)] <|
.call 178 [.i (some ((-4), 4))] [.i (.v 0), .i (.v 4), .i (.v 5)] <|
.lett (.ite (.cmp .lt (.v 8) (.v 6)) (.v 8) (.v 6)) <|
.call 178 [.i (some ((-4), 4))] [.i (.v 0), .i (.v 4), .i (.v 5)] <|
.lett (.ite (.cmp .lt (.v 7) (.v 10)) (.v 10) (.v 7)) <|
.call 178 [.i (some ((-4), 4))] [.i (.v 1), .i (.v 2), .i (.v 3)] <|
.lett (.ite (.cmp .lt (.v 12) (.v 9)) (.v 12) (.v 9)) <|
.call 178 [.i (some ((-4), 4))] [.i (.v 1), .i (.v 2), .i (.v 3)] <|
.lett (.ite (.cmp .lt (.v 11) (.v 14)) (.v 14) (.v 11)) <|
.call 178 [.i (some ((-4), 4))] [.i (.v 1), .i (.v 4), .i (.v 5)] <|
.lett (.ite (.cmp .lt (.v 16) (.v 13)) (.v 16) (.v 13)) <|
.call 178 [.i (some ((-4), 4))] [.i (.v 1), .i (.v 4), .i (.v 5)] <|
.lett (.ite (.cmp .lt (.v 15) (.v 18)) (.v 18) (.v 15)) <|
.call 179 [.i (some (0, 511))] [.i (.v 17), .i (.v 19)] <|
.ret (.int .i64 (.v 20))
noncomputable def r13hull_cx : Ctx := { tys := tys, fns := fns, sps := [(178, r13class_sp), (179, r13bt_sp)], anns := [], trys := [] }
def r13hull_ivs : List (Option (Int × Int)) := [some ((-9223372036854775808), 9223372036854775807), some ((-9223372036854775808), 9223372036854775807), some (0, 18446744073709551615), some (0, 18446744073709551615), some (0, 18446744073709551615), some (0, 18446744073709551615)]
set_option maxRecDepth 100000 in
theorem r13hull_walk : runFn r13hull_cx 3000 140 Try.f140 r13hull_sp.args r13hull_ivs = r13hull_tree := by kernel_rfl
noncomputable def r13hull_M : Nat → SpecSem
  | 178 => r13class_sem
  | 179 => r13bt_sem
  | _ => noSem
theorem r13hull_M178 : r13hull_M 178 = r13class_sem := rfl
theorem r13hull_M179 : r13hull_M 179 = r13bt_sem := rfl
theorem r13hull_cxok : CxOK Try.prog r13hull_cx r13hull_M := ⟨tysOK, fnsOK, spCons r13class_ok <| spCons r13bt_ok <| fun _ _ h => spNil h, mixedOK, fun _ _ h => trNil h⟩
set_option maxRecDepth 100000 in
set_option maxHeartbeats 8000000 in
theorem r13hull_den (R RP : Value → Prop) (F : Ex → St → Js → Env → Prop) (J : Js) (x0 : Int) (x1 : Int) (x2 : Int) (x3 : Int) (x4 : Int) (x5 : Int) : Tree.den r13hull_M R RP F r13hull_tree J [(.i x0), (.i x1), (.i x2), (.i x3), (.i x4), (.i x5)] = (
  (r13class_sem.pre [(.i x0), (.i x2), (.i x3)]) ∧ (
∀ x6 : Int, x6 = (Cv.int (Env.get (r13class_sem.out [(.i x0), (.i x2), (.i x3)]) 0)) → (-4 : Int) ≤ x6 → x6 ≤ (4 : Int) →
(r13class_sem.pre [(.i x0), (.i x2), (.i x3)]) ∧ (
∀ x7 : Int, x7 = (Cv.int (Env.get (r13class_sem.out [(.i x0), (.i x2), (.i x3)]) 0)) → (-4 : Int) ≤ x7 → x7 ≤ (4 : Int) →
(r13class_sem.pre [(.i x0), (.i x4), (.i x5)]) ∧ (
∀ x8 : Int, x8 = (Cv.int (Env.get (r13class_sem.out [(.i x0), (.i x4), (.i x5)]) 0)) → (-4 : Int) ≤ x8 → x8 ≤ (4 : Int) →
∀ x9 : Int, x9 = (if (Cmp.den .lt x8 x6) = true then x8 else x6) →
(r13class_sem.pre [(.i x0), (.i x4), (.i x5)]) ∧ (
∀ x10 : Int, x10 = (Cv.int (Env.get (r13class_sem.out [(.i x0), (.i x4), (.i x5)]) 0)) → (-4 : Int) ≤ x10 → x10 ≤ (4 : Int) →
∀ x11 : Int, x11 = (if (Cmp.den .lt x7 x10) = true then x10 else x7) →
(r13class_sem.pre [(.i x1), (.i x2), (.i x3)]) ∧ (
∀ x12 : Int, x12 = (Cv.int (Env.get (r13class_sem.out [(.i x1), (.i x2), (.i x3)]) 0)) → (-4 : Int) ≤ x12 → x12 ≤ (4 : Int) →
∀ x13 : Int, x13 = (if (Cmp.den .lt x12 x9) = true then x12 else x9) →
(r13class_sem.pre [(.i x1), (.i x2), (.i x3)]) ∧ (
∀ x14 : Int, x14 = (Cv.int (Env.get (r13class_sem.out [(.i x1), (.i x2), (.i x3)]) 0)) → (-4 : Int) ≤ x14 → x14 ≤ (4 : Int) →
∀ x15 : Int, x15 = (if (Cmp.den .lt x11 x14) = true then x14 else x11) →
(r13class_sem.pre [(.i x1), (.i x4), (.i x5)]) ∧ (
∀ x16 : Int, x16 = (Cv.int (Env.get (r13class_sem.out [(.i x1), (.i x4), (.i x5)]) 0)) → (-4 : Int) ≤ x16 → x16 ≤ (4 : Int) →
∀ x17 : Int, x17 = (if (Cmp.den .lt x16 x13) = true then x16 else x13) →
(r13class_sem.pre [(.i x1), (.i x4), (.i x5)]) ∧ (
∀ x18 : Int, x18 = (Cv.int (Env.get (r13class_sem.out [(.i x1), (.i x4), (.i x5)]) 0)) → (-4 : Int) ≤ x18 → x18 ≤ (4 : Int) →
∀ x19 : Int, x19 = (if (Cmp.den .lt x15 x18) = true then x18 else x15) →
(r13bt_sem.pre [(.i x17), (.i x19)]) ∧ (
∀ x20 : Int, x20 = (Cv.int (Env.get (r13bt_sem.out [(.i x17), (.i x19)]) 0)) → (0 : Int) ≤ x20 → x20 ≤ (511 : Int) →
R (Value.int .i64 x20))))))))))) := by kernel_rfl

def r13hull_sem : SpecSem := { pre := fun cs => match cs with | [.i a, .i b, .i hu, .i lu, .i hw, .i lw] => IsI a ∧ IsI b ∧ IsU hu ∧ IsU lu ∧ IsU hw ∧ IsU lw ∧ (hOK a b hu lu hw lw) | _ => False, out := fun cs => match cs with | [.i a, .i b, .i hu, .i lu, .i hw, .i lw] => [.i (maskZ (hullLo a (val hu lu) (val hw lw)) (hullHi b (val hu lu) (val hw lw)))] | _ => [] }
set_option maxRecDepth 10000 in
set_option maxHeartbeats 16000000 in
theorem r13hull_ok : SpecOK Try.prog 140 r13hull_sp r13hull_sem := by
  refine spec_of_tree r13hull_cxok Try.func140 (by kernel_rfl) (by kernel_rfl) r13hull_walk rfl ?_
  intro cs hpre
  match cs, hpre with
  | [.i a, .i b, .i hu, .i lu, .i hw, .i lw], ⟨j_a, j_b, j_hu, j_lu, j_hw, j_lw, hx⟩ =>
    have h_a := j_a
    unfold IsI at h_a
    have h_b := j_b
    unfold IsI at h_b
    have h_hu := j_hu
    unfold IsU at h_hu
    have h_lu := j_lu
    unfold IsU at h_lu
    have h_hw := j_hw
    unfold IsU at h_hw
    have h_lw := j_lw
    unfold IsU at h_lw
    refine ⟨rfl, IvsB.ok (by simp only [r13hull_ivs, IvsB, Cv.int, and_true] <;> omega), ?_, ?_⟩
    · simp only [r13hull_sem, r13hull_sp, Fits, and_true]
      obtain ⟨⟨r1, r2⟩, r3, r4⟩ := hull_rng a b (val hu lu) (val hw lw)
      exact maskZ_rng r1 r4
    · rw [r13hull_den]
      obtain ⟨hr1, hr2, hr3⟩ := id hx
      have hu60 : hu < 1152921504606846976 := by unfold val at hr2; omega
      have t1 := clsZ_rng a (val hu lu)
      have t2 := clsZ_rng a (val hw lw)
      have t3 := clsZ_rng b (val hu lu)
      have t4 := clsZ_rng b (val hw lw)
      have m1 := hull_min (a := a) (b := b) (u := val hu lu) (w := val hw lw) hr1 (by omega)
      have m2 := hull_max (a := a) (b := b) (u := val hu lu) (w := val hw lw) hr1 (by omega)
      simp only [r13hull_sem, r13hull_sp, hr3, hu60, t1, t2, t3, t4, j_a, j_b, j_hu, j_lu, j_hw, j_lw, forall_eq, if_true, if_false, true_and, and_true, false_and, and_false, true_or, or_true, false_or, or_false, true_iff, iff_true, false_iff, iff_false, not_true_eq_false, not_false_eq_true, true_implies, false_implies, implies_true, forall_const, decide_true, decide_false, reduceCtorEq, r13hull_den, r13class_sem, r13bt_sem, Tree.den, LE.den, Cv.list, placeA, List.getElem?_cons_zero, List.getElem?_cons_succ, IE.den, BE.den, At.den, CA.den, Env.get, Cv.int, Cv.bool, List.cons_append, List.nil_append, List.map_cons, List.map_nil, bindRes, bindEq, Fits, SV.den, denL, place, placeL, eq_t, eq_f, lt_t, lt_f, le_t, le_f, beq_iff_eq, beq_eq_false_iff_ne, ne_eq, reduceCtorEq, b_dec, decide_eq_true_eq, decide_eq_false_iff_not, Bool.not_eq_false', Bool.or_eq_true, Bool.or_eq_false_iff, Bool.and_eq_false_iff, true_iff, false_iff, Bool.false_eq_true, Bool.not_eq_true', Bool.and_eq_true, Bool.not_true, Bool.not_false, List.cons.injEq, Cv.i.injEq, Cv.b.injEq, and_true, true_and, agg_inj, tup_inj, Value.int.injEq, Value.bool.injEq]
      simp only [ite_min, ite_max, m1, m2]
      obtain ⟨⟨r1, r2⟩, r3, r4⟩ := hull_rng a b (val hu lu) (val hw lw)
      have s1 : IsI (hullLo a (val hu lu) (val hw lw)) := ⟨by omega, by omega⟩
      have s2 : IsI (hullHi b (val hu lu) (val hw lw)) := ⟨by omega, by omega⟩
      simp only [s1, s2, r1, r2, r3, r4, if_true, if_false, true_and, and_true, false_and, and_false, true_or, or_true, false_or, or_false, true_iff, iff_true, false_iff, iff_false, not_true_eq_false, not_false_eq_true, true_implies, false_implies, implies_true, forall_const, decide_true, decide_false, reduceCtorEq]
      (repeat' (first | intro _ | refine And.intro ?_ ?_ | exact trivial | rfl))
end Go.Proofs.Ytlhmhcjpdpakkaa.X
