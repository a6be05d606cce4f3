/-
  The contracts of zone's classes (the reference's stand apart), for every input in range.
-/
import Derived.Test.YtgnihomdpandfaaSxTimes
import Derived.Test.YtgnihomdpandfaaSxWide2
import Derived.Test.YtgnihomdpandfaaSxStatNum2
namespace Go.Proofs.Ytgnihomdpandfaa.X
open Go Go.SX Go.RowKit
set_option linter.unusedVariables false
set_option linter.unusedSimpArgs false



/-- how far out a deviation is, by a variance -/
def clsN (q v : Int) : Int := 1 + (if v < q then 1 else 0) + (if 4 * v < q then 1 else 0) + (if 9 * v < q then 1 else 0)
def clsZ (d v : Int) : Int := if d = 0 then 0 else if d < 0 then -clsN (d * d) v else clsN (d * d) v
theorem clsN_rng (q v : Int) : 1 ≤ clsN q v ∧ clsN q v ≤ 4 := by unfold clsN; omega
theorem clsZ_rng (d v : Int) : -4 ≤ clsZ d v ∧ clsZ d v ≤ 4 := by
  have := clsN_rng (d * d) v
  unfold clsZ; omega
theorem sq_i {d : Int} (h : IsI d) : 0 ≤ d * d ∧ d * d ≤ 85070591730234615865843651857942052864 := by
  unfold IsI at h
  by_cases h0 : 0 ≤ d
  · have h1 := Int.mul_le_mul (a := d) (b := d) (c := 9223372036854775807) (d := 9223372036854775807) (by omega) (by omega) (by omega) (by omega)
    have h2 := Int.mul_nonneg h0 h0
    omega
  · have h1 := Int.mul_le_mul (a := -d) (b := -d) (c := 9223372036854775808) (d := 9223372036854775808) (by omega) (by omega) (by omega) (by omega)
    have h2 := Int.mul_nonneg (a := -d) (b := -d) (by omega) (by omega)
    rw [Int.neg_mul_neg] at h1 h2
    omega
theorem wneg {d : Int} (h : -9223372036854775808 ≤ d ∧ d ≤ 9223372036854775807) (h0 : d < 0) : IntKind.u64.wrap (0 - IntKind.u64.wrap d) = -d := by rw [wu64_mod, wu64_mod]; omega
theorem v01 : val 0 1 = 1 := rfl
theorem v04 : val 0 4 = 4 := rfl
theorem v09 : val 0 9 = 9 := rfl
def zclass_sp : SpecSh := { args := [(.int .i64 (.z 0)), (.agg [(.int .u64 (.z 0)), (.int .u64 (.z 0))])], res := (.int .i64 (.z 0)), sh := [.i (some ((-4), 4))] }
set_option maxRecDepth 100000 in
def zclass_tree : Tree :=
.ite (.cmp .lt (.v 0) (.z 0)) (.lett (.wrap .u64 (.v 0)) <|
.lett (.subw .u64 (.z 0) (.v 3)) <|
.lett (.wrap .u64 (.v 0)) <|
.lett (.subw .u64 (.z 0) (.v 5)) <|
.call 19 [.i (some (0, 18446744073709551615)), .i (some (0, 18446744073709551615))] [.i (.v 4), .i (.v 6)] <|
.call 20 [.i (some (0, 18446744073709551615)), .i (some (0, 18446744073709551615)), .b] [.i (.z 0), .i (.z 1), .i (.v 1), .i (.v 2)] <|
.call 37 [.b] [.i (.v 9), .i (.v 10), .i (.v 7), .i (.v 8)] <|
.lett (.ite (.v 12) (.z 2) (.z 1)) <|
.call 20 [.i (some (0, 18446744073709551615)), .i (some (0, 18446744073709551615)), .b] [.i (.z 0), .i (.z 4), .i (.v 1), .i (.v 2)] <|
.call 37 [.b] [.i (.v 14), .i (.v 15), .i (.v 7), .i (.v 8)] <|
.ite (.v 17) (.lett (.add (.v 13) (.z 1)) <|
.call 20 [.i (some (0, 18446744073709551615)), .i (some (0, 18446744073709551615)), .b] [.i (.z 0), .i (.z 9), .i (.v 1), .i (.v 2)] <|
.call 37 [.b] [.i (.v 19), .i (.v 20), .i (.v 7), .i (.v 8)] <|
.ite (.v 22) (.lett (.add (.v 18) (.z 1)) <|
.lett (.sub (.z 0) (.v 23)) <|
.ret (.int .i64 (.v 24))) <|
.lett (.sub (.z 0) (.v 18)) <|
.ret (.int .i64 (.v 23))) <|
.call 20 [.i (some (0, 18446744073709551615)), .i (some (0, 18446744073709551615)), .b] [.i (.z 0), .i (.z 9), .i (.v 1), .i (.v 2)] <|
.call 37 [.b] [.i (.v 18), .i (.v 19), .i (.v 7), .i (.v 8)] <|
.ite (.v 21) (.lett (.add (.v 13) (.z 1)) <|
.lett (.sub (.z 0) (.v 22)) <|
.ret (.int .i64 (.v 23))) <|
.lett (.sub (.z 0) (.v 13)) <|
.ret (.int .i64 (.v 22))) <|
.call 19 [.i (some (0, 18446744073709551615)), .i (some (0, 18446744073709551615))] [.i (.v 0), .i (.v 0)] <|
.call 20 [.i (some (0, 18446744073709551615)), .i (some (0, 18446744073709551615)), .b] [.i (.z 0), .i (.z 1), .i (.v 1), .i (.v 2)] <|
.call 37 [.b] [.i (.v 5), .i (.v 6), .i (.v 3), .i (.v 4)] <|
.lett (.ite (.v 8) (.z 2) (.z 1)) <|
.call 20 [.i (some (0, 18446744073709551615)), .i (some (0, 18446744073709551615)), .b] [.i (.z 0), .i (.z 4), .i (.v 1), .i (.v 2)] <|
.call 37 [.b] [.i (.v 10), .i (.v 11), .i (.v 3), .i (.v 4)] <|
.ite (.v 13) (.lett (.add (.v 9) (.z 1)) <|
.call 20 [.i (some (0, 18446744073709551615)), .i (some (0, 18446744073709551615)), .b] [.i (.z 0), .i (.z 9), .i (.v 1), .i (.v 2)] <|
.call 37 [.b] [.i (.v 15), .i (.v 16), .i (.v 3), .i (.v 4)] <|
.ite (.v 18) (.lett (.add (.v 14) (.z 1)) <|
.ite (.cmp .eq (.v 0) (.z 0)) (.ret (.int .i64 (.z 0))) <|
.ret (.int .i64 (.v 19))) <|
.ite (.cmp .eq (.v 0) (.z 0)) (.ret (.int .i64 (.z 0))) <|
.ret (.int .i64 (.v 14))) <|
.call 20 [.i (some (0, 18446744073709551615)), .i (some (0, 18446744073709551615)), .b] [.i (.z 0), .i (.z 9), .i (.v 1), .i (.v 2)] <|
.call 37 [.b] [.i (.v 14), .i (.v 15), .i (.v 3), .i (.v 4)] <|
.ite (.v 17) (.lett (.add (.v 9) (.z 1)) <|
.ite (.cmp .eq (.v 0) (.z 0)) (.ret (.int .i64 (.z 0))) <|
.ret (.int .i64 (.v 18))) <|
.ite (.cmp .eq (.v 0) (.z 0)) (.ret (.int .i64 (.z 0))) <|
.ret (.int .i64 (.v 9))
noncomputable def zclass_cx : Ctx := { tys := tys, fns := fns, sps := [(19, mul_sp), (20, times_sp), (37, less_sp)], anns := [], trys := [] }
def zclass_ivs : List (Option (Int × Int)) := [some ((-9223372036854775808), 9223372036854775807), some (0, 18446744073709551615), some (0, 18446744073709551615)]
set_option maxRecDepth 100000 in
theorem zclass_walk : runFn zclass_cx 3000 49 Try.f49 zclass_sp.args zclass_ivs = zclass_tree := by kernel_rfl
noncomputable def zclass_M : Nat → SpecSem
  | 19 => mul_sem
  | 20 => times_sem
  | 37 => less_sem
  | _ => noSem
theorem zclass_M19 : zclass_M 19 = mul_sem := rfl
theorem zclass_M20 : zclass_M 20 = times_sem := rfl
theorem zclass_M37 : zclass_M 37 = less_sem := rfl
theorem zclass_cxok : CxOK Try.prog zclass_cx zclass_M := ⟨tysOK, fnsOK, spCons mul_ok <| spCons times_ok <| spCons less_ok <| fun _ _ h => spNil h, mixedOK, fun _ _ h => trNil h⟩
set_option maxRecDepth 100000 in
set_option maxHeartbeats 8000000 in
theorem zclass_den (R RP : Value → Prop) (F : Ex → St → Js → Env → Prop) (J : Js) (x0 : Int) (x1 : Int) (x2 : Int) : Tree.den zclass_M R RP F zclass_tree J [(.i x0), (.i x1), (.i x2)] = (
  ((Cmp.den .lt x0 (0 : Int)) = true → ∀ x3 : Int, x3 = (IntKind.u64.wrap x0) →
∀ x4 : Int, x4 = (IntKind.u64.wrap ((0 : Int) - x3)) →
∀ x5 : Int, x5 = (IntKind.u64.wrap x0) →
∀ x6 : Int, x6 = (IntKind.u64.wrap ((0 : Int) - x5)) →
(mul_sem.pre [(.i x4), (.i x6)]) ∧ (
∀ x7 : Int, x7 = (Cv.int (Env.get (mul_sem.out [(.i x4), (.i x6)]) 0)) → (0 : Int) ≤ x7 → x7 ≤ (18446744073709551615 : Int) →
∀ x8 : Int, x8 = (Cv.int (Env.get (mul_sem.out [(.i x4), (.i x6)]) 1)) → (0 : Int) ≤ x8 → x8 ≤ (18446744073709551615 : Int) →
(times_sem.pre [(.i (0 : Int)), (.i (1 : Int)), (.i x1), (.i x2)]) ∧ (
∀ x9 : Int, x9 = (Cv.int (Env.get (times_sem.out [(.i (0 : Int)), (.i (1 : Int)), (.i x1), (.i x2)]) 0)) → (0 : Int) ≤ x9 → x9 ≤ (18446744073709551615 : Int) →
∀ x10 : Int, x10 = (Cv.int (Env.get (times_sem.out [(.i (0 : Int)), (.i (1 : Int)), (.i x1), (.i x2)]) 1)) → (0 : Int) ≤ x10 → x10 ≤ (18446744073709551615 : Int) →
(less_sem.pre [(.i x9), (.i x10), (.i x7), (.i x8)]) ∧ (
∀ x13 : Int, x13 = (if (Cv.bool (Env.get (less_sem.out [(.i x9), (.i x10), (.i x7), (.i x8)]) 0)) = true then (2 : Int) else (1 : Int)) →
(times_sem.pre [(.i (0 : Int)), (.i (4 : Int)), (.i x1), (.i x2)]) ∧ (
∀ x14 : Int, x14 = (Cv.int (Env.get (times_sem.out [(.i (0 : Int)), (.i (4 : Int)), (.i x1), (.i x2)]) 0)) → (0 : Int) ≤ x14 → x14 ≤ (18446744073709551615 : Int) →
∀ x15 : Int, x15 = (Cv.int (Env.get (times_sem.out [(.i (0 : Int)), (.i (4 : Int)), (.i x1), (.i x2)]) 1)) → (0 : Int) ≤ x15 → x15 ≤ (18446744073709551615 : Int) →
(less_sem.pre [(.i x14), (.i x15), (.i x7), (.i x8)]) ∧ (
((Cv.bool (Env.get (less_sem.out [(.i x14), (.i x15), (.i x7), (.i x8)]) 0)) = true → ∀ x18 : Int, x18 = (x13 + (1 : Int)) →
(times_sem.pre [(.i (0 : Int)), (.i (9 : Int)), (.i x1), (.i x2)]) ∧ (
∀ x19 : Int, x19 = (Cv.int (Env.get (times_sem.out [(.i (0 : Int)), (.i (9 : Int)), (.i x1), (.i x2)]) 0)) → (0 : Int) ≤ x19 → x19 ≤ (18446744073709551615 : Int) →
∀ x20 : Int, x20 = (Cv.int (Env.get (times_sem.out [(.i (0 : Int)), (.i (9 : Int)), (.i x1), (.i x2)]) 1)) → (0 : Int) ≤ x20 → x20 ≤ (18446744073709551615 : Int) →
(less_sem.pre [(.i x19), (.i x20), (.i x7), (.i x8)]) ∧ (
((Cv.bool (Env.get (less_sem.out [(.i x19), (.i x20), (.i x7), (.i x8)]) 0)) = true → ∀ x23 : Int, x23 = (x18 + (1 : Int)) →
∀ x24 : Int, x24 = ((0 : Int) - x23) →
R (Value.int .i64 x24)) ∧ ((Cv.bool (Env.get (less_sem.out [(.i x19), (.i x20), (.i x7), (.i x8)]) 0)) = false → ∀ x23 : Int, x23 = ((0 : Int) - x18) →
R (Value.int .i64 x23))))) ∧ ((Cv.bool (Env.get (less_sem.out [(.i x14), (.i x15), (.i x7), (.i x8)]) 0)) = false → (times_sem.pre [(.i (0 : Int)), (.i (9 : Int)), (.i x1), (.i x2)]) ∧ (
∀ x18 : Int, x18 = (Cv.int (Env.get (times_sem.out [(.i (0 : Int)), (.i (9 : Int)), (.i x1), (.i x2)]) 0)) → (0 : Int) ≤ x18 → x18 ≤ (18446744073709551615 : Int) →
∀ x19 : Int, x19 = (Cv.int (Env.get (times_sem.out [(.i (0 : Int)), (.i (9 : Int)), (.i x1), (.i x2)]) 1)) → (0 : Int) ≤ x19 → x19 ≤ (18446744073709551615 : Int) →
(less_sem.pre [(.i x18), (.i x19), (.i x7), (.i x8)]) ∧ (
((Cv.bool (Env.get (less_sem.out [(.i x18), (.i x19), (.i x7), (.i x8)]) 0)) = true → ∀ x22 : Int, x22 = (x13 + (1 : Int)) →
∀ x23 : Int, x23 = ((0 : Int) - x22) →
R (Value.int .i64 x23)) ∧ ((Cv.bool (Env.get (less_sem.out [(.i x18), (.i x19), (.i x7), (.i x8)]) 0)) = false → ∀ x22 : Int, x22 = ((0 : Int) - x13) →
R (Value.int .i64 x22))))))))))) ∧ ((Cmp.den .lt x0 (0 : Int)) = false → (mul_sem.pre [(.i x0), (.i x0)]) ∧ (
∀ x3 : Int, x3 = (Cv.int (Env.get (mul_sem.out [(.i x0), (.i x0)]) 0)) → (0 : Int) ≤ x3 → x3 ≤ (18446744073709551615 : Int) →
∀ x4 : Int, x4 = (Cv.int (Env.get (mul_sem.out [(.i x0), (.i x0)]) 1)) → (0 : Int) ≤ x4 → x4 ≤ (18446744073709551615 : Int) →
(times_sem.pre [(.i (0 : Int)), (.i (1 : Int)), (.i x1), (.i x2)]) ∧ (
∀ x5 : Int, x5 = (Cv.int (Env.get (times_sem.out [(.i (0 : Int)), (.i (1 : Int)), (.i x1), (.i x2)]) 0)) → (0 : Int) ≤ x5 → x5 ≤ (18446744073709551615 : Int) →
∀ x6 : Int, x6 = (Cv.int (Env.get (times_sem.out [(.i (0 : Int)), (.i (1 : Int)), (.i x1), (.i x2)]) 1)) → (0 : Int) ≤ x6 → x6 ≤ (18446744073709551615 : Int) →
(less_sem.pre [(.i x5), (.i x6), (.i x3), (.i x4)]) ∧ (
∀ x9 : Int, x9 = (if (Cv.bool (Env.get (less_sem.out [(.i x5), (.i x6), (.i x3), (.i x4)]) 0)) = true then (2 : Int) else (1 : Int)) →
(times_sem.pre [(.i (0 : Int)), (.i (4 : Int)), (.i x1), (.i x2)]) ∧ (
∀ x10 : Int, x10 = (Cv.int (Env.get (times_sem.out [(.i (0 : Int)), (.i (4 : Int)), (.i x1), (.i x2)]) 0)) → (0 : Int) ≤ x10 → x10 ≤ (18446744073709551615 : Int) →
∀ x11 : Int, x11 = (Cv.int (Env.get (times_sem.out [(.i (0 : Int)), (.i (4 : Int)), (.i x1), (.i x2)]) 1)) → (0 : Int) ≤ x11 → x11 ≤ (18446744073709551615 : Int) →
(less_sem.pre [(.i x10), (.i x11), (.i x3), (.i x4)]) ∧ (
((Cv.bool (Env.get (less_sem.out [(.i x10), (.i x11), (.i x3), (.i x4)]) 0)) = true → ∀ x14 : Int, x14 = (x9 + (1 : Int)) →
(times_sem.pre [(.i (0 : Int)), (.i (9 : Int)), (.i x1), (.i x2)]) ∧ (
∀ x15 : Int, x15 = (Cv.int (Env.get (times_sem.out [(.i (0 : Int)), (.i (9 : Int)), (.i x1), (.i x2)]) 0)) → (0 : Int) ≤ x15 → x15 ≤ (18446744073709551615 : Int) →
∀ x16 : Int, x16 = (Cv.int (Env.get (times_sem.out [(.i (0 : Int)), (.i (9 : Int)), (.i x1), (.i x2)]) 1)) → (0 : Int) ≤ x16 → x16 ≤ (18446744073709551615 : Int) →
(less_sem.pre [(.i x15), (.i x16), (.i x3), (.i x4)]) ∧ (
((Cv.bool (Env.get (less_sem.out [(.i x15), (.i x16), (.i x3), (.i x4)]) 0)) = true → ∀ x19 : Int, x19 = (x14 + (1 : Int)) →
((Cmp.den .eq x0 (0 : Int)) = true → R (Value.int .i64 (0 : Int))) ∧ ((Cmp.den .eq x0 (0 : Int)) = false → R (Value.int .i64 x19))) ∧ ((Cv.bool (Env.get (less_sem.out [(.i x15), (.i x16), (.i x3), (.i x4)]) 0)) = false → ((Cmp.den .eq x0 (0 : Int)) = true → R (Value.int .i64 (0 : Int))) ∧ ((Cmp.den .eq x0 (0 : Int)) = false → R (Value.int .i64 x14)))))) ∧ ((Cv.bool (Env.get (less_sem.out [(.i x10), (.i x11), (.i x3), (.i x4)]) 0)) = false → (times_sem.pre [(.i (0 : Int)), (.i (9 : Int)), (.i x1), (.i x2)]) ∧ (
∀ x14 : Int, x14 = (Cv.int (Env.get (times_sem.out [(.i (0 : Int)), (.i (9 : Int)), (.i x1), (.i x2)]) 0)) → (0 : Int) ≤ x14 → x14 ≤ (18446744073709551615 : Int) →
∀ x15 : Int, x15 = (Cv.int (Env.get (times_sem.out [(.i (0 : Int)), (.i (9 : Int)), (.i x1), (.i x2)]) 1)) → (0 : Int) ≤ x15 → x15 ≤ (18446744073709551615 : Int) →
(less_sem.pre [(.i x14), (.i x15), (.i x3), (.i x4)]) ∧ (
((Cv.bool (Env.get (less_sem.out [(.i x14), (.i x15), (.i x3), (.i x4)]) 0)) = true → ∀ x18 : Int, x18 = (x9 + (1 : Int)) →
((Cmp.den .eq x0 (0 : Int)) = true → R (Value.int .i64 (0 : Int))) ∧ ((Cmp.den .eq x0 (0 : Int)) = false → R (Value.int .i64 x18))) ∧ ((Cv.bool (Env.get (less_sem.out [(.i x14), (.i x15), (.i x3), (.i x4)]) 0)) = false → ((Cmp.den .eq x0 (0 : Int)) = true → R (Value.int .i64 (0 : Int))) ∧ ((Cmp.den .eq x0 (0 : Int)) = false → R (Value.int .i64 x9))))))))))))) := by kernel_rfl

def zclass_sem : SpecSem := { pre := fun cs => match cs with | [.i d, .i h, .i l] => IsI d ∧ IsU h ∧ IsU l ∧ (h < 1152921504606846976) | _ => False, out := fun cs => match cs with | [.i d, .i h, .i l] => [.i (clsZ d (val h l))] | _ => [] }
set_option maxRecDepth 10000 in
set_option maxHeartbeats 16000000 in
theorem zclass_ok : SpecOK Try.prog 49 zclass_sp zclass_sem := by
  refine spec_of_tree zclass_cxok Try.func49 (by kernel_rfl) (by kernel_rfl) zclass_walk rfl ?_
  intro cs hpre
  match cs, hpre with
  | [.i d, .i h, .i l], ⟨j_d, j_h, j_l, hx⟩ =>
    have h_d := j_d
    unfold IsI at h_d
    have h_h := j_h
    unfold IsU at h_h
    have h_l := j_l
    unfold IsU at h_l
    refine ⟨rfl, IvsB.ok (by simp only [zclass_ivs, IvsB, Cv.int, and_true] <;> omega), ?_, ?_⟩
    · simp only [zclass_sem, zclass_sp, Fits, and_true]; exact clsZ_rng _ _
    · have hq := sq_i j_d
      rw [zclass_den]
      have hv : 0 ≤ val h l ∧ val h l < 21267647932558653966460912964485513216 := by unfold val; omega
      have e1 := vq2 (x := 1 * val h l) (by omega) (by omega)
      have e4 := vq2 (x := 4 * val h l) (by omega) (by omega)
      have e9 := vq2 (x := 9 * val h l) (by omega) (by omega)
      simp only [zclass_sem, zclass_sp, clsZ, clsN, IsU, v01, v04, v09, forall_eq, zclass_den, mul_sem, times_sem, less_sem, Tree.den, LE.den, Cv.list, placeA, List.getElem?_cons_zero, List.getElem?_cons_succ, IE.den, BE.den, At.den, CA.den, Env.get, Cv.int, Cv.bool, List.cons_append, List.nil_append, List.map_cons, List.map_nil, bindRes, bindEq, Fits, SV.den, denL, place, placeL, eq_t, eq_f, lt_t, lt_f, le_t, le_f, beq_iff_eq, beq_eq_false_iff_ne, ne_eq, reduceCtorEq, b_dec, decide_eq_true_eq, decide_eq_false_iff_not, Bool.not_eq_false', Bool.or_eq_true, Bool.or_eq_false_iff, Bool.and_eq_false_iff, true_iff, false_iff, Bool.false_eq_true, Bool.not_eq_true', Bool.and_eq_true, Bool.not_true, Bool.not_false, List.cons.injEq, Cv.i.injEq, Cv.b.injEq, and_true, true_and, agg_inj, tup_inj, Value.int.injEq, Value.bool.injEq]
      refine ⟨fun hn => ?_, fun hn => ?_⟩
      · rw [wneg h_d hn]
        simp only [Int.neg_mul_neg, vq, e1, e4, e9]
        generalize d * d = q at *
        generalize val h l = v at *
        clear e1 e4 e9
        (repeat' (first | intro _ | refine And.intro ?_ ?_ | exact trivial)) <;> omega
      · simp only [vq, e1, e4, e9]
        generalize d * d = q at *
        generalize val h l = v at *
        clear e1 e4 e9
        (repeat' (first | intro _ | refine And.intro ?_ ?_ | exact trivial)) <;> omega


def zClass_sp : SpecSh := { args := [(.int .i64 (.z 0)), (.agg [(.int .u64 (.z 0)), (.int .u64 (.z 0))])], res := (.tup [(.int .i64 (.z 0)), (.int .i64 (.z 0))]), sh := [.i (some ((-4), 4)), .i (some (0, 0))] }
set_option maxRecDepth 100000 in
def zClass_tree : Tree :=
.ite (.cmp .le (.z 1152921504606846976) (.v 1)) (.ret (.tup [(.int .i64 (.z 0)), (.int .i64 (.z 1))])) <|
.call 49 [.i (some ((-4), 4))] [.i (.v 0), .i (.v 1), .i (.v 2)] <|
.ret (.tup [(.int .i64 (.v 3)), (.int .i64 (.z 0))])
noncomputable def zClass_cx : Ctx := { tys := tys, fns := fns, sps := [(49, zclass_sp)], anns := [], trys := [] }
def zClass_ivs : List (Option (Int × Int)) := [some ((-9223372036854775808), 9223372036854775807), some (0, 18446744073709551615), some (0, 18446744073709551615)]
set_option maxRecDepth 100000 in
theorem zClass_walk : runFn zClass_cx 3000 21 Try.f21 zClass_sp.args zClass_ivs = zClass_tree := by kernel_rfl
noncomputable def zClass_M : Nat → SpecSem
  | 49 => zclass_sem
  | _ => noSem
theorem zClass_M49 : zClass_M 49 = zclass_sem := rfl
theorem zClass_cxok : CxOK Try.prog zClass_cx zClass_M := ⟨tysOK, fnsOK, spCons zclass_ok <| fun _ _ h => spNil h, mixedOK, fun _ _ h => trNil h⟩

def zClass_sem : SpecSem := { pre := fun cs => match cs with | [.i d, .i h, .i l] => IsI d ∧ IsU h ∧ IsU l ∧ (h < 1152921504606846976) | _ => False, out := fun cs => match cs with | [.i d, .i h, .i l] => [.i (clsZ d (val h l)), .i 0] | _ => [] }
set_option maxRecDepth 10000 in
set_option maxHeartbeats 16000000 in
theorem zClass_ok : SpecOK Try.prog 21 zClass_sp zClass_sem := by
  refine spec_of_tree zClass_cxok Try.func21 (by kernel_rfl) (by kernel_rfl) zClass_walk rfl ?_
  intro cs hpre
  match cs, hpre with
  | [.i d, .i h, .i l], ⟨j_d, j_h, j_l, hx⟩ =>
    have h_d := j_d
    unfold IsI at h_d
    have h_h := j_h
    unfold IsU at h_h
    have h_l := j_l
    unfold IsU at h_l
    refine ⟨rfl, IvsB.ok (by simp only [zClass_ivs, IvsB, Cv.int, and_true] <;> omega), ?_, ?_⟩
    · simp only [zClass_sem, zClass_sp, Fits, and_true]; have := clsZ_rng d (val h l); omega
    · simp only [zClass_sem, zClass_sp, zClass_tree, zClass_M49, zclass_sem, Tree.den, LE.den, Cv.list, placeA, List.getElem?_cons_zero, List.getElem?_cons_succ, IE.den, BE.den, At.den, CA.den, Env.get, Cv.int, Cv.bool, List.cons_append, List.nil_append, List.map_cons, List.map_nil, bindRes, bindEq, Fits, SV.den, denL, place, placeL, eq_t, eq_f, lt_t, lt_f, le_t, le_f, beq_iff_eq, beq_eq_false_iff_ne, ne_eq, reduceCtorEq, b_dec, decide_eq_true_eq, decide_eq_false_iff_not, Bool.not_eq_false', Bool.or_eq_true, Bool.or_eq_false_iff, Bool.and_eq_false_iff, true_iff, false_iff, Bool.false_eq_true, Bool.not_eq_true', Bool.and_eq_true, Bool.not_true, Bool.not_false, List.cons.injEq, Cv.i.injEq, Cv.b.injEq, and_true, true_and, agg_inj, tup_inj, Value.int.injEq, Value.bool.injEq]
      simp only [hx, j_d, j_h, j_l, forall_eq, if_true, if_false, true_and, and_true, false_and, and_false, true_or, or_true, false_or, or_false, true_iff, iff_true, false_iff, iff_false, not_true_eq_false, not_false_eq_true, true_implies, false_implies, implies_true, forall_const, decide_true, decide_false, reduceCtorEq]
      (repeat' (first | intro _ | refine And.intro ?_ ?_ | exact trivial)) <;> omega
end Go.Proofs.Ytgnihomdpandfaa.X
