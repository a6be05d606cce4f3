/-
  The contracts of zone.Class and zone.Hull, for every input in range.
-/
import Derived.Test.YtehoiibnemjkaaaDoorSxZoneNum
import Derived.Test.YtehoiibnemjkaaaDoorSxTimes
namespace Go.Proofs.YtehoiibnemjkaaaDoor.X
open Go Go.SX Go.RowKit
set_option linter.unusedVariables false
set_option linter.unusedSimpArgs false



def zclass_sp : SpecSh := { args := [(.int .i64 (.z 0)), (.agg [(.int .u64 (.z 0)), (.int .u64 (.z 0))])], res := (.int .i64 (.z 0)), sh := [.i (some ((-4), 4))] }
set_option maxRecDepth 100000 in
def zclass_tree : Tree :=
.ite (.cmp .lt (.v 0) (.z 0)) (.lett (.wrap .u64 (.v 0)) <|
.lett (.subw .u64 (.z 0) (.v 3)) <|
.lett (.wrap .u64 (.v 0)) <|
.lett (.subw .u64 (.z 0) (.v 5)) <|
.call 25 [.i (some (0, 18446744073709551615)), .i (some (0, 18446744073709551615))] [.i (.v 4), .i (.v 6)] <|
.call 28 [.i (some (0, 18446744073709551615)), .i (some (0, 18446744073709551615)), .b] [.i (.z 0), .i (.z 1), .i (.v 1), .i (.v 2)] <|
.call 14 [.b] [.i (.v 9), .i (.v 10), .i (.v 7), .i (.v 8)] <|
.lett (.ite (.v 12) (.z 2) (.z 1)) <|
.call 28 [.i (some (0, 18446744073709551615)), .i (some (0, 18446744073709551615)), .b] [.i (.z 0), .i (.z 4), .i (.v 1), .i (.v 2)] <|
.call 14 [.b] [.i (.v 14), .i (.v 15), .i (.v 7), .i (.v 8)] <|
.ite (.v 17) (.lett (.add (.v 13) (.z 1)) <|
.call 28 [.i (some (0, 18446744073709551615)), .i (some (0, 18446744073709551615)), .b] [.i (.z 0), .i (.z 9), .i (.v 1), .i (.v 2)] <|
.call 14 [.b] [.i (.v 19), .i (.v 20), .i (.v 7), .i (.v 8)] <|
.ite (.v 22) (.lett (.add (.v 18) (.z 1)) <|
.lett (.sub (.z 0) (.v 23)) <|
.ret (.int .i64 (.v 24))) <|
.lett (.sub (.z 0) (.v 18)) <|
.ret (.int .i64 (.v 23))) <|
.call 28 [.i (some (0, 18446744073709551615)), .i (some (0, 18446744073709551615)), .b] [.i (.z 0), .i (.z 9), .i (.v 1), .i (.v 2)] <|
.call 14 [.b] [.i (.v 18), .i (.v 19), .i (.v 7), .i (.v 8)] <|
.ite (.v 21) (.lett (.add (.v 13) (.z 1)) <|
.lett (.sub (.z 0) (.v 22)) <|
.ret (.int .i64 (.v 23))) <|
.lett (.sub (.z 0) (.v 13)) <|
.ret (.int .i64 (.v 22))) <|
.call 25 [.i (some (0, 18446744073709551615)), .i (some (0, 18446744073709551615))] [.i (.v 0), .i (.v 0)] <|
.call 28 [.i (some (0, 18446744073709551615)), .i (some (0, 18446744073709551615)), .b] [.i (.z 0), .i (.z 1), .i (.v 1), .i (.v 2)] <|
.call 14 [.b] [.i (.v 5), .i (.v 6), .i (.v 3), .i (.v 4)] <|
.lett (.ite (.v 8) (.z 2) (.z 1)) <|
.call 28 [.i (some (0, 18446744073709551615)), .i (some (0, 18446744073709551615)), .b] [.i (.z 0), .i (.z 4), .i (.v 1), .i (.v 2)] <|
.call 14 [.b] [.i (.v 10), .i (.v 11), .i (.v 3), .i (.v 4)] <|
.ite (.v 13) (.lett (.add (.v 9) (.z 1)) <|
.call 28 [.i (some (0, 18446744073709551615)), .i (some (0, 18446744073709551615)), .b] [.i (.z 0), .i (.z 9), .i (.v 1), .i (.v 2)] <|
.call 14 [.b] [.i (.v 15), .i (.v 16), .i (.v 3), .i (.v 4)] <|
.ite (.v 18) (.lett (.add (.v 14) (.z 1)) <|
.ite (.cmp .eq (.v 0) (.z 0)) (.ret (.int .i64 (.z 0))) <|
.ret (.int .i64 (.v 19))) <|
.ite (.cmp .eq (.v 0) (.z 0)) (.ret (.int .i64 (.z 0))) <|
.ret (.int .i64 (.v 14))) <|
.call 28 [.i (some (0, 18446744073709551615)), .i (some (0, 18446744073709551615)), .b] [.i (.z 0), .i (.z 9), .i (.v 1), .i (.v 2)] <|
.call 14 [.b] [.i (.v 14), .i (.v 15), .i (.v 3), .i (.v 4)] <|
.ite (.v 17) (.lett (.add (.v 9) (.z 1)) <|
.ite (.cmp .eq (.v 0) (.z 0)) (.ret (.int .i64 (.z 0))) <|
.ret (.int .i64 (.v 18))) <|
.ite (.cmp .eq (.v 0) (.z 0)) (.ret (.int .i64 (.z 0))) <|
.ret (.int .i64 (.v 9))
noncomputable def zclass_cx : Ctx := { tys := tys, fns := fns, mets := mets, sps := [(25, mul_sp), (28, times_sp), (14, less_sp)], anns := [], trys := [] }
def zclass_ivs : List (Option (Int × Int)) := [some ((-9223372036854775808), 9223372036854775807), some (0, 18446744073709551615), some (0, 18446744073709551615)]
set_option maxRecDepth 100000 in
theorem zclass_walk : runFn zclass_cx 3000 16 Tryd.f16 zclass_sp.args zclass_ivs = zclass_tree := by kernel_rfl
noncomputable def zclass_M : Nat → SpecSem
  | 25 => mul_sem
  | 28 => times_sem
  | 14 => less_sem
  | _ => noSem
theorem zclass_M25 : zclass_M 25 = mul_sem := rfl
theorem zclass_M28 : zclass_M 28 = times_sem := rfl
theorem zclass_M14 : zclass_M 14 = less_sem := rfl
theorem zclass_cxok : CxOK Tryd.prog zclass_cx zclass_M := ⟨tysOK, fnsOK, spCons mul_ok <| spCons times_ok <| spCons less_ok <| fun _ _ h => spNil h, mixedOK, fun _ _ h => trNil h, fun _ _ h => atNil h, metsOK⟩
set_option maxRecDepth 100000 in
set_option maxHeartbeats 8000000 in
theorem zclass_den (R RP : Value → Prop) (F : Ex → St → Js → Env → Prop) (J : Js) (x0 : Int) (x1 : Int) (x2 : Int) : Tree.den zclass_M R RP F zclass_tree J [(.i x0), (.i x1), (.i x2)] = (
  ((Cmp.den .lt x0 (0 : Int)) = true → ∀ x3 : Int, x3 = (IntKind.u64.wrap x0) →
∀ x4 : Int, x4 = (IntKind.u64.wrap ((0 : Int) - x3)) →
∀ x5 : Int, x5 = (IntKind.u64.wrap x0) →
∀ x6 : Int, x6 = (IntKind.u64.wrap ((0 : Int) - x5)) →
(mul_sem.pre [(.i x4), (.i x6)]) ∧ (
∀ x7 : Int, x7 = (Cv.int (Env.get (mul_sem.out [(.i x4), (.i x6)]) 0)) → (0 : Int) ≤ x7 → x7 ≤ (18446744073709551615 : Int) →
∀ x8 : Int, x8 = (Cv.int (Env.get (mul_sem.out [(.i x4), (.i x6)]) 1)) → (0 : Int) ≤ x8 → x8 ≤ (18446744073709551615 : Int) →
(times_sem.pre [(.i (0 : Int)), (.i (1 : Int)), (.i x1), (.i x2)]) ∧ (
∀ x9 : Int, x9 = (Cv.int (Env.get (times_sem.out [(.i (0 : Int)), (.i (1 : Int)), (.i x1), (.i x2)]) 0)) → (0 : Int) ≤ x9 → x9 ≤ (18446744073709551615 : Int) →
∀ x10 : Int, x10 = (Cv.int (Env.get (times_sem.out [(.i (0 : Int)), (.i (1 : Int)), (.i x1), (.i x2)]) 1)) → (0 : Int) ≤ x10 → x10 ≤ (18446744073709551615 : Int) →
(less_sem.pre [(.i x9), (.i x10), (.i x7), (.i x8)]) ∧ (
∀ x13 : Int, x13 = (if (Cv.bool (Env.get (less_sem.out [(.i x9), (.i x10), (.i x7), (.i x8)]) 0)) = true then (2 : Int) else (1 : Int)) →
(times_sem.pre [(.i (0 : Int)), (.i (4 : Int)), (.i x1), (.i x2)]) ∧ (
∀ x14 : Int, x14 = (Cv.int (Env.get (times_sem.out [(.i (0 : Int)), (.i (4 : Int)), (.i x1), (.i x2)]) 0)) → (0 : Int) ≤ x14 → x14 ≤ (18446744073709551615 : Int) →
∀ x15 : Int, x15 = (Cv.int (Env.get (times_sem.out [(.i (0 : Int)), (.i (4 : Int)), (.i x1), (.i x2)]) 1)) → (0 : Int) ≤ x15 → x15 ≤ (18446744073709551615 : Int) →
(less_sem.pre [(.i x14), (.i x15), (.i x7), (.i x8)]) ∧ (
((Cv.bool (Env.get (less_sem.out [(.i x14), (.i x15), (.i x7), (.i x8)]) 0)) = true → ∀ x18 : Int, x18 = (x13 + (1 : Int)) →
(times_sem.pre [(.i (0 : Int)), (.i (9 : Int)), (.i x1), (.i x2)]) ∧ (
∀ x19 : Int, x19 = (Cv.int (Env.get (times_sem.out [(.i (0 : Int)), (.i (9 : Int)), (.i x1), (.i x2)]) 0)) → (0 : Int) ≤ x19 → x19 ≤ (18446744073709551615 : Int) →
∀ x20 : Int, x20 = (Cv.int (Env.get (times_sem.out [(.i (0 : Int)), (.i (9 : Int)), (.i x1), (.i x2)]) 1)) → (0 : Int) ≤ x20 → x20 ≤ (18446744073709551615 : Int) →
(less_sem.pre [(.i x19), (.i x20), (.i x7), (.i x8)]) ∧ (
((Cv.bool (Env.get (less_sem.out [(.i x19), (.i x20), (.i x7), (.i x8)]) 0)) = true → ∀ x23 : Int, x23 = (x18 + (1 : Int)) →
∀ x24 : Int, x24 = ((0 : Int) - x23) →
R (Value.int .i64 x24)) ∧ ((Cv.bool (Env.get (less_sem.out [(.i x19), (.i x20), (.i x7), (.i x8)]) 0)) = false → ∀ x23 : Int, x23 = ((0 : Int) - x18) →
R (Value.int .i64 x23))))) ∧ ((Cv.bool (Env.get (less_sem.out [(.i x14), (.i x15), (.i x7), (.i x8)]) 0)) = false → (times_sem.pre [(.i (0 : Int)), (.i (9 : Int)), (.i x1), (.i x2)]) ∧ (
∀ x18 : Int, x18 = (Cv.int (Env.get (times_sem.out [(.i (0 : Int)), (.i (9 : Int)), (.i x1), (.i x2)]) 0)) → (0 : Int) ≤ x18 → x18 ≤ (18446744073709551615 : Int) →
∀ x19 : Int, x19 = (Cv.int (Env.get (times_sem.out [(.i (0 : Int)), (.i (9 : Int)), (.i x1), (.i x2)]) 1)) → (0 : Int) ≤ x19 → x19 ≤ (18446744073709551615 : Int) →
(less_sem.pre [(.i x18), (.i x19), (.i x7), (.i x8)]) ∧ (
((Cv.bool (Env.get (less_sem.out [(.i x18), (.i x19), (.i x7), (.i x8)]) 0)) = true → ∀ x22 : Int, x22 = (x13 + (1 : Int)) →
∀ x23 : Int, x23 = ((0 : Int) - x22) →
R (Value.int .i64 x23)) ∧ ((Cv.bool (Env.get (less_sem.out [(.i x18), (.i x19), (.i x7), (.i x8)]) 0)) = false → ∀ x22 : Int, x22 = ((0 : Int) - x13) →
R (Value.int .i64 x22))))))))))) ∧ ((Cmp.den .lt x0 (0 : Int)) = false → (mul_sem.pre [(.i x0), (.i x0)]) ∧ (
∀ x3 : Int, x3 = (Cv.int (Env.get (mul_sem.out [(.i x0), (.i x0)]) 0)) → (0 : Int) ≤ x3 → x3 ≤ (18446744073709551615 : Int) →
∀ x4 : Int, x4 = (Cv.int (Env.get (mul_sem.out [(.i x0), (.i x0)]) 1)) → (0 : Int) ≤ x4 → x4 ≤ (18446744073709551615 : Int) →
(times_sem.pre [(.i (0 : Int)), (.i (1 : Int)), (.i x1), (.i x2)]) ∧ (
∀ x5 : Int, x5 = (Cv.int (Env.get (times_sem.out [(.i (0 : Int)), (.i (1 : Int)), (.i x1), (.i x2)]) 0)) → (0 : Int) ≤ x5 → x5 ≤ (18446744073709551615 : Int) →
∀ x6 : Int, x6 = (Cv.int (Env.get (times_sem.out [(.i (0 : Int)), (.i (1 : Int)), (.i x1), (.i x2)]) 1)) → (0 : Int) ≤ x6 → x6 ≤ (18446744073709551615 : Int) →
(less_sem.pre [(.i x5), (.i x6), (.i x3), (.i x4)]) ∧ (
∀ x9 : Int, x9 = (if (Cv.bool (Env.get (less_sem.out [(.i x5), (.i x6), (.i x3), (.i x4)]) 0)) = true then (2 : Int) else (1 : Int)) →
(times_sem.pre [(.i (0 : Int)), (.i (4 : Int)), (.i x1), (.i x2)]) ∧ (
∀ x10 : Int, x10 = (Cv.int (Env.get (times_sem.out [(.i (0 : Int)), (.i (4 : Int)), (.i x1), (.i x2)]) 0)) → (0 : Int) ≤ x10 → x10 ≤ (18446744073709551615 : Int) →
∀ x11 : Int, x11 = (Cv.int (Env.get (times_sem.out [(.i (0 : Int)), (.i (4 : Int)), (.i x1), (.i x2)]) 1)) → (0 : Int) ≤ x11 → x11 ≤ (18446744073709551615 : Int) →
(less_sem.pre [(.i x10), (.i x11), (.i x3), (.i x4)]) ∧ (
((Cv.bool (Env.get (less_sem.out [(.i x10), (.i x11), (.i x3), (.i x4)]) 0)) = true → ∀ x14 : Int, x14 = (x9 + (1 : Int)) →
(times_sem.pre [(.i (0 : Int)), (.i (9 : Int)), (.i x1), (.i x2)]) ∧ (
∀ x15 : Int, x15 = (Cv.int (Env.get (times_sem.out [(.i (0 : Int)), (.i (9 : Int)), (.i x1), (.i x2)]) 0)) → (0 : Int) ≤ x15 → x15 ≤ (18446744073709551615 : Int) →
∀ x16 : Int, x16 = (Cv.int (Env.get (times_sem.out [(.i (0 : Int)), (.i (9 : Int)), (.i x1), (.i x2)]) 1)) → (0 : Int) ≤ x16 → x16 ≤ (18446744073709551615 : Int) →
(less_sem.pre [(.i x15), (.i x16), (.i x3), (.i x4)]) ∧ (
((Cv.bool (Env.get (less_sem.out [(.i x15), (.i x16), (.i x3), (.i x4)]) 0)) = true → ∀ x19 : Int, x19 = (x14 + (1 : Int)) →
((Cmp.den .eq x0 (0 : Int)) = true → R (Value.int .i64 (0 : Int))) ∧ ((Cmp.den .eq x0 (0 : Int)) = false → R (Value.int .i64 x19))) ∧ ((Cv.bool (Env.get (less_sem.out [(.i x15), (.i x16), (.i x3), (.i x4)]) 0)) = false → ((Cmp.den .eq x0 (0 : Int)) = true → R (Value.int .i64 (0 : Int))) ∧ ((Cmp.den .eq x0 (0 : Int)) = false → R (Value.int .i64 x14)))))) ∧ ((Cv.bool (Env.get (less_sem.out [(.i x10), (.i x11), (.i x3), (.i x4)]) 0)) = false → (times_sem.pre [(.i (0 : Int)), (.i (9 : Int)), (.i x1), (.i x2)]) ∧ (
∀ x14 : Int, x14 = (Cv.int (Env.get (times_sem.out [(.i (0 : Int)), (.i (9 : Int)), (.i x1), (.i x2)]) 0)) → (0 : Int) ≤ x14 → x14 ≤ (18446744073709551615 : Int) →
∀ x15 : Int, x15 = (Cv.int (Env.get (times_sem.out [(.i (0 : Int)), (.i (9 : Int)), (.i x1), (.i x2)]) 1)) → (0 : Int) ≤ x15 → x15 ≤ (18446744073709551615 : Int) →
(less_sem.pre [(.i x14), (.i x15), (.i x3), (.i x4)]) ∧ (
((Cv.bool (Env.get (less_sem.out [(.i x14), (.i x15), (.i x3), (.i x4)]) 0)) = true → ∀ x18 : Int, x18 = (x9 + (1 : Int)) →
((Cmp.den .eq x0 (0 : Int)) = true → R (Value.int .i64 (0 : Int))) ∧ ((Cmp.den .eq x0 (0 : Int)) = false → R (Value.int .i64 x18))) ∧ ((Cv.bool (Env.get (less_sem.out [(.i x14), (.i x15), (.i x3), (.i x4)]) 0)) = false → ((Cmp.den .eq x0 (0 : Int)) = true → R (Value.int .i64 (0 : Int))) ∧ ((Cmp.den .eq x0 (0 : Int)) = false → R (Value.int .i64 x9))))))))))))) := by kernel_rfl

def zclass_sem : SpecSem := { pre := fun cs => match cs with | [.i d, .i h, .i l] => IsI d ∧ IsU h ∧ IsU l ∧ (h < 1152921504606846976) | _ => False, out := fun cs => match cs with | [.i d, .i h, .i l] => [.i (clsZ d (val h l))] | _ => [] }
set_option maxRecDepth 10000 in
set_option maxHeartbeats 16000000 in
theorem zclass_ok : SpecOK Tryd.prog 16 zclass_sp zclass_sem := by
  refine spec_of_tree zclass_cxok Tryd.func16 (by kernel_rfl) (by kernel_rfl) zclass_walk rfl ?_
  intro cs hpre
  match cs, hpre with
  | [.i d, .i h, .i l], ⟨j_d, j_h, j_l, hx⟩ =>
    have h_d := j_d
    unfold IsI at h_d
    have h_h := j_h
    unfold IsU at h_h
    have h_l := j_l
    unfold IsU at h_l
    refine ⟨rfl, IvsB.ok (by simp only [zclass_ivs, IvsB, Cv.int, and_true] <;> omega), ?_, ?_⟩
    · simp only [zclass_sem, zclass_sp, Fits, and_true]; exact clsZ_rng _ _
    · have hq := sq_i j_d
      rw [zclass_den]
      have hv : 0 ≤ val h l ∧ val h l < 21267647932558653966460912964485513216 := by unfold val; omega
      have e1 := vq2 (x := 1 * val h l) (by omega) (by omega)
      have e4 := vq2 (x := 4 * val h l) (by omega) (by omega)
      have e9 := vq2 (x := 9 * val h l) (by omega) (by omega)
      simp only [zclass_sem, zclass_sp, clsZ, clsN, IsU, v01, v04, v09, forall_eq, zclass_den, mul_sem, times_sem, less_sem, Tree.den, LE.den, Cv.list, placeA, List.getElem?_cons_zero, List.getElem?_cons_succ, IE.den, BE.den, At.den, CA.den, Env.get, Cv.int, Cv.bool, List.cons_append, List.nil_append, List.map_cons, List.map_nil, bindRes, bindEq, Fits, SV.den, denL, place, placeL, eq_t, eq_f, lt_t, lt_f, le_t, le_f, beq_iff_eq, beq_eq_false_iff_ne, ne_eq, reduceCtorEq, b_dec, decide_eq_true_eq, decide_eq_false_iff_not, Bool.not_eq_false', Bool.or_eq_true, Bool.or_eq_false_iff, Bool.and_eq_false_iff, true_iff, false_iff, Bool.false_eq_true, Bool.not_eq_true', Bool.and_eq_true, Bool.not_true, Bool.not_false, List.cons.injEq, Cv.i.injEq, Cv.b.injEq, and_true, true_and, agg_inj, tup_inj, Value.int.injEq, Value.bool.injEq]
      refine ⟨fun hn => ?_, fun hn => ?_⟩
      · rw [wneg h_d hn]
        simp only [Int.neg_mul_neg, vq, e1, e4, e9]
        generalize d * d = q at *
        generalize val h l = v at *
        clear e1 e4 e9
        (repeat' (first | intro _ | refine And.intro ?_ ?_ | exact trivial)) <;> omega
      · simp only [vq, e1, e4, e9]
        generalize d * d = q at *
        generalize val h l = v at *
        clear e1 e4 e9
        (repeat' (first | intro _ | refine And.intro ?_ ?_ | exact trivial)) <;> omega

def zClass_sp : SpecSh := { args := [(.int .i64 (.z 0)), (.agg [(.int .u64 (.z 0)), (.int .u64 (.z 0))])], res := (.tup [(.int .i64 (.z 0)), (.int .i64 (.z 0))]), sh := [.i (some ((-4), 4)), .i (some (0, 1))] }
set_option maxRecDepth 100000 in
def zClass_tree : Tree :=
.ite (.cmp .le (.z 1152921504606846976) (.v 1)) (.ret (.tup [(.int .i64 (.z 0)), (.int .i64 (.z 1))])) <|
.call 16 [.i (some ((-4), 4))] [.i (.v 0), .i (.v 1), .i (.v 2)] <|
.ret (.tup [(.int .i64 (.v 3)), (.int .i64 (.z 0))])
noncomputable def zClass_cx : Ctx := { tys := tys, fns := fns, mets := mets, sps := [(16, zclass_sp)], anns := [], trys := [] }
def zClass_ivs : List (Option (Int × Int)) := [some ((-9223372036854775808), 9223372036854775807), some (0, 18446744073709551615), some (0, 18446744073709551615)]
set_option maxRecDepth 100000 in
theorem zClass_walk : runFn zClass_cx 3000 5 Tryd.f5 zClass_sp.args zClass_ivs = zClass_tree := by kernel_rfl
noncomputable def zClass_M : Nat → SpecSem
  | 16 => zclass_sem
  | _ => noSem
theorem zClass_M16 : zClass_M 16 = zclass_sem := rfl
theorem zClass_cxok : CxOK Tryd.prog zClass_cx zClass_M := ⟨tysOK, fnsOK, spCons zclass_ok <| fun _ _ h => spNil h, mixedOK, fun _ _ h => trNil h, fun _ _ h => atNil h, metsOK⟩

def zClass_sem : SpecSem := { pre := fun cs => match cs with | [.i d, .i h, .i l] => IsI d ∧ IsU h ∧ IsU l | _ => False, out := fun cs => match cs with | [.i d, .i h, .i l] => [.i (if h < 1152921504606846976 then clsZ d (val h l) else 0), .i (if h < 1152921504606846976 then 0 else 1)] | _ => [] }
set_option maxRecDepth 10000 in
set_option maxHeartbeats 16000000 in
theorem zClass_ok : SpecOK Tryd.prog 5 zClass_sp zClass_sem := by
  refine spec_of_tree zClass_cxok Tryd.func5 (by kernel_rfl) (by kernel_rfl) zClass_walk rfl ?_
  intro cs hpre
  match cs, hpre with
  | [.i d, .i h, .i l], ⟨j_d, j_h, j_l⟩ =>
    have h_d := j_d
    unfold IsI at h_d
    have h_h := j_h
    unfold IsU at h_h
    have h_l := j_l
    unfold IsU at h_l
    refine ⟨rfl, IvsB.ok (by simp only [zClass_ivs, IvsB, Cv.int, and_true] <;> omega), ?_, ?_⟩
    · simp only [zClass_sem, zClass_sp, Fits, and_true]; have := clsZ_rng d (val h l); omega
    · simp only [zClass_sem, zClass_sp, zClass_tree, zClass_M16, zclass_sem, Tree.den, LE.den, Cv.list, placeA, List.getElem?_cons_zero, List.getElem?_cons_succ, IE.den, BE.den, At.den, CA.den, Env.get, Cv.int, Cv.bool, List.cons_append, List.nil_append, List.map_cons, List.map_nil, bindRes, bindEq, Fits, SV.den, denL, place, placeL, eq_t, eq_f, lt_t, lt_f, le_t, le_f, beq_iff_eq, beq_eq_false_iff_ne, ne_eq, reduceCtorEq, b_dec, decide_eq_true_eq, decide_eq_false_iff_not, Bool.not_eq_false', Bool.or_eq_true, Bool.or_eq_false_iff, Bool.and_eq_false_iff, true_iff, false_iff, Bool.false_eq_true, Bool.not_eq_true', Bool.and_eq_true, Bool.not_true, Bool.not_false, List.cons.injEq, Cv.i.injEq, Cv.b.injEq, and_true, true_and, agg_inj, tup_inj, Value.int.injEq, Value.bool.injEq]
      by_cases hh : h < 1152921504606846976
      · simp only [hh, j_d, j_h, j_l, forall_eq, if_true, if_false, true_and, and_true, false_and, and_false, true_or, or_true, false_or, or_false, true_iff, iff_true, false_iff, iff_false, not_true_eq_false, not_false_eq_true, true_implies, false_implies, implies_true, forall_const, decide_true, decide_false, reduceCtorEq]
        (repeat' (first | intro _ | refine And.intro ?_ ?_ | exact trivial)) <;> omega
      · simp only [hh, j_d, j_h, j_l, forall_eq, if_true, if_false, true_and, and_true, false_and, and_false, true_or, or_true, false_or, or_false, true_iff, iff_true, false_iff, iff_false, not_true_eq_false, not_false_eq_true, true_implies, false_implies, implies_true, forall_const, decide_true, decide_false, reduceCtorEq] <;> (try ((repeat' (first | intro _ | refine And.intro ?_ ?_ | exact trivial)) <;> omega))
def zhull_sp : SpecSh := { args := [(.agg [(.int .i64 (.z 0)), (.int .i64 (.z 0))]), (.agg [(.int .u64 (.z 0)), (.int .u64 (.z 0))]), (.agg [(.int .u64 (.z 0)), (.int .u64 (.z 0))])], res := (.tup [(.int .i64 (.z 0)), (.int .i64 (.z 0))]), sh := [.i (some (0, 511)), .i (some (0, 1))] }
set_option maxRecDepth 100000 in
def zhull_tree : Tree :=
.ite (.not (.cmp .le (.v 0) (.v 1))) (.ret (.tup [(.int .i64 (.z 0)), (.int .i64 (.z 1))])) <|
.call 14 [.b] [.i (.v 4), .i (.v 5), .i (.v 2), .i (.v 3)] <|
.ite (.v 6) (.ret (.tup [(.int .i64 (.z 0)), (.int .i64 (.z 1))])) <|
.ite (.cmp .le (.z 1152921504606846976) (.v 4)) (.ret (.tup [(.int .i64 (.z 0)), (.int .i64 (.z 1))])) <|
.call 16 [.i (some ((-4), 4))] [.i (.v 0), .i (.v 2), .i (.v 3)] <|
.call 16 [.i (some ((-4), 4))] [.i (.v 1), .i (.v 2), .i (.v 3)] <|
.ite (.cmp .lt (.z 0) (.v 0)) (.call 16 [.i (some ((-4), 4))] [.i (.v 0), .i (.v 4), .i (.v 5)] <|
.ite (.cmp .lt (.v 1) (.z 0)) (.call 16 [.i (some ((-4), 4))] [.i (.v 1), .i (.v 4), .i (.v 5)] <|
.lett (.sub (.v 10) (.v 9)) <|
.lett (.add (.v 11) (.z 1)) <|
.ite (.cmp .lt (.v 12) (.z 0)) (.bad 30) <|
.lett (.shl .i64 (.z 1) (.v 12)) <|
.lett (.subw .i64 (.v 13) (.z 1)) <|
.lett (.add (.v 9) (.z 4)) <|
.lett (.shl .i64 (.v 14) (.v 15)) <|
.ret (.tup [(.int .i64 (.v 16)), (.int .i64 (.z 0))])) <|
.lett (.sub (.v 8) (.v 9)) <|
.lett (.add (.v 10) (.z 1)) <|
.ite (.cmp .lt (.v 11) (.z 0)) (.bad 30) <|
.lett (.shl .i64 (.z 1) (.v 11)) <|
.lett (.subw .i64 (.v 12) (.z 1)) <|
.lett (.add (.v 9) (.z 4)) <|
.lett (.shl .i64 (.v 13) (.v 14)) <|
.ret (.tup [(.int .i64 (.v 15)), (.int .i64 (.z 0))])) <|
.ite (.cmp .lt (.v 1) (.z 0)) (.call 16 [.i (some ((-4), 4))] [.i (.v 1), .i (.v 4), .i (.v 5)] <|
.lett (.sub (.v 9) (.v 7)) <|
.lett (.add (.v 10) (.z 1)) <|
.ite (.cmp .lt (.v 11) (.z 0)) (.bad 30) <|
.lett (.shl .i64 (.z 1) (.v 11)) <|
.lett (.subw .i64 (.v 12) (.z 1)) <|
.lett (.add (.v 7) (.z 4)) <|
.lett (.shl .i64 (.v 13) (.v 14)) <|
.ret (.tup [(.int .i64 (.v 15)), (.int .i64 (.z 0))])) <|
.lett (.sub (.v 8) (.v 7)) <|
.lett (.add (.v 9) (.z 1)) <|
.ite (.cmp .lt (.v 10) (.z 0)) (.bad 30) <|
.lett (.shl .i64 (.z 1) (.v 10)) <|
.lett (.subw .i64 (.v 11) (.z 1)) <|
.lett (.add (.v 7) (.z 4)) <|
.lett (.shl .i64 (.v 12) (.v 13)) <|
.ret (.tup [(.int .i64 (.v 14)), (.int .i64 (.z 0))])
noncomputable def zhull_cx : Ctx := { tys := tys, fns := fns, mets := mets, sps := [(16, zclass_sp), (14, less_sp)], anns := [], trys := [] }
def zhull_ivs : List (Option (Int × Int)) := [some ((-9223372036854775808), 9223372036854775807), some ((-9223372036854775808), 9223372036854775807), some (0, 18446744073709551615), some (0, 18446744073709551615), some (0, 18446744073709551615), some (0, 18446744073709551615)]
set_option maxRecDepth 100000 in
theorem zhull_walk : runFn zhull_cx 3000 15 Tryd.f15 zhull_sp.args zhull_ivs = zhull_tree := by kernel_rfl
noncomputable def zhull_M : Nat → SpecSem
  | 16 => zclass_sem
  | 14 => less_sem
  | _ => noSem
theorem zhull_M16 : zhull_M 16 = zclass_sem := rfl
theorem zhull_M14 : zhull_M 14 = less_sem := rfl
theorem zhull_cxok : CxOK Tryd.prog zhull_cx zhull_M := ⟨tysOK, fnsOK, spCons zclass_ok <| spCons less_ok <| fun _ _ h => spNil h, mixedOK, fun _ _ h => trNil h, fun _ _ h => atNil h, metsOK⟩
set_option maxRecDepth 100000 in
set_option maxHeartbeats 8000000 in
theorem zhull_den (R RP : Value → Prop) (F : Ex → St → Js → Env → Prop) (J : Js) (x0 : Int) (x1 : Int) (x2 : Int) (x3 : Int) (x4 : Int) (x5 : Int) : Tree.den zhull_M R RP F zhull_tree J [(.i x0), (.i x1), (.i x2), (.i x3), (.i x4), (.i x5)] = (
  ((!(Cmp.den .le x0 x1)) = true → R (Value.tuple [(Value.int .i64 (0 : Int)), (Value.int .i64 (1 : Int))].toArray)) ∧ ((!(Cmp.den .le x0 x1)) = false → (less_sem.pre [(.i x4), (.i x5), (.i x2), (.i x3)]) ∧ (
((Cv.bool (Env.get (less_sem.out [(.i x4), (.i x5), (.i x2), (.i x3)]) 0)) = true → R (Value.tuple [(Value.int .i64 (0 : Int)), (Value.int .i64 (1 : Int))].toArray)) ∧ ((Cv.bool (Env.get (less_sem.out [(.i x4), (.i x5), (.i x2), (.i x3)]) 0)) = false → ((Cmp.den .le (1152921504606846976 : Int) x4) = true → R (Value.tuple [(Value.int .i64 (0 : Int)), (Value.int .i64 (1 : Int))].toArray)) ∧ ((Cmp.den .le (1152921504606846976 : Int) x4) = false → (zclass_sem.pre [(.i x0), (.i x2), (.i x3)]) ∧ (
∀ x7 : Int, x7 = (Cv.int (Env.get (zclass_sem.out [(.i x0), (.i x2), (.i x3)]) 0)) → (-4 : Int) ≤ x7 → x7 ≤ (4 : Int) →
(zclass_sem.pre [(.i x1), (.i x2), (.i x3)]) ∧ (
∀ x8 : Int, x8 = (Cv.int (Env.get (zclass_sem.out [(.i x1), (.i x2), (.i x3)]) 0)) → (-4 : Int) ≤ x8 → x8 ≤ (4 : Int) →
((Cmp.den .lt (0 : Int) x0) = true → (zclass_sem.pre [(.i x0), (.i x4), (.i x5)]) ∧ (
∀ x9 : Int, x9 = (Cv.int (Env.get (zclass_sem.out [(.i x0), (.i x4), (.i x5)]) 0)) → (-4 : Int) ≤ x9 → x9 ≤ (4 : Int) →
((Cmp.den .lt x1 (0 : Int)) = true → (zclass_sem.pre [(.i x1), (.i x4), (.i x5)]) ∧ (
∀ x10 : Int, x10 = (Cv.int (Env.get (zclass_sem.out [(.i x1), (.i x4), (.i x5)]) 0)) → (-4 : Int) ≤ x10 → x10 ≤ (4 : Int) →
∀ x11 : Int, x11 = (x10 - x9) →
∀ x12 : Int, x12 = (x11 + (1 : Int)) →
((Cmp.den .lt x12 (0 : Int)) = true → False) ∧ ((Cmp.den .lt x12 (0 : Int)) = false → ∀ x13 : Int, x13 = (IntKind.i64.wrap ((1 : Int) * 2 ^ (min (Int.toNat x12) (IntKind.i64).bits))) →
∀ x14 : Int, x14 = (IntKind.i64.wrap (x13 - (1 : Int))) →
∀ x15 : Int, x15 = (x9 + (4 : Int)) →
∀ x16 : Int, x16 = (IntKind.i64.wrap (x14 * 2 ^ (min (Int.toNat x15) (IntKind.i64).bits))) →
R (Value.tuple [(Value.int .i64 x16), (Value.int .i64 (0 : Int))].toArray)))) ∧ ((Cmp.den .lt x1 (0 : Int)) = false → ∀ x10 : Int, x10 = (x8 - x9) →
∀ x11 : Int, x11 = (x10 + (1 : Int)) →
((Cmp.den .lt x11 (0 : Int)) = true → False) ∧ ((Cmp.den .lt x11 (0 : Int)) = false → ∀ x12 : Int, x12 = (IntKind.i64.wrap ((1 : Int) * 2 ^ (min (Int.toNat x11) (IntKind.i64).bits))) →
∀ x13 : Int, x13 = (IntKind.i64.wrap (x12 - (1 : Int))) →
∀ x14 : Int, x14 = (x9 + (4 : Int)) →
∀ x15 : Int, x15 = (IntKind.i64.wrap (x13 * 2 ^ (min (Int.toNat x14) (IntKind.i64).bits))) →
R (Value.tuple [(Value.int .i64 x15), (Value.int .i64 (0 : Int))].toArray))))) ∧ ((Cmp.den .lt (0 : Int) x0) = false → ((Cmp.den .lt x1 (0 : Int)) = true → (zclass_sem.pre [(.i x1), (.i x4), (.i x5)]) ∧ (
∀ x9 : Int, x9 = (Cv.int (Env.get (zclass_sem.out [(.i x1), (.i x4), (.i x5)]) 0)) → (-4 : Int) ≤ x9 → x9 ≤ (4 : Int) →
∀ x10 : Int, x10 = (x9 - x7) →
∀ x11 : Int, x11 = (x10 + (1 : Int)) →
((Cmp.den .lt x11 (0 : Int)) = true → False) ∧ ((Cmp.den .lt x11 (0 : Int)) = false → ∀ x12 : Int, x12 = (IntKind.i64.wrap ((1 : Int) * 2 ^ (min (Int.toNat x11) (IntKind.i64).bits))) →
∀ x13 : Int, x13 = (IntKind.i64.wrap (x12 - (1 : Int))) →
∀ x14 : Int, x14 = (x7 + (4 : Int)) →
∀ x15 : Int, x15 = (IntKind.i64.wrap (x13 * 2 ^ (min (Int.toNat x14) (IntKind.i64).bits))) →
R (Value.tuple [(Value.int .i64 x15), (Value.int .i64 (0 : Int))].toArray)))) ∧ ((Cmp.den .lt x1 (0 : Int)) = false → ∀ x9 : Int, x9 = (x8 - x7) →
∀ x10 : Int, x10 = (x9 + (1 : Int)) →
((Cmp.den .lt x10 (0 : Int)) = true → False) ∧ ((Cmp.den .lt x10 (0 : Int)) = false → ∀ x11 : Int, x11 = (IntKind.i64.wrap ((1 : Int) * 2 ^ (min (Int.toNat x10) (IntKind.i64).bits))) →
∀ x12 : Int, x12 = (IntKind.i64.wrap (x11 - (1 : Int))) →
∀ x13 : Int, x13 = (x7 + (4 : Int)) →
∀ x14 : Int, x14 = (IntKind.i64.wrap (x12 * 2 ^ (min (Int.toNat x13) (IntKind.i64).bits))) →
R (Value.tuple [(Value.int .i64 x14), (Value.int .i64 (0 : Int))].toArray))))))))))) := by kernel_rfl

def zhull_sem : SpecSem := { pre := fun cs => match cs with | [.i a, .i b, .i hu, .i lu, .i hw, .i lw] => IsI a ∧ IsI b ∧ IsU hu ∧ IsU lu ∧ IsU hw ∧ IsU lw | _ => False, out := fun cs => match cs with | [.i a, .i b, .i hu, .i lu, .i hw, .i lw] => [.i (if hOK a b hu lu hw lw then maskZ (hullLo a (val hu lu) (val hw lw)) (hullHi b (val hu lu) (val hw lw)) else 0), .i (if hOK a b hu lu hw lw then 0 else 1)] | _ => [] }
set_option maxRecDepth 10000 in
set_option maxHeartbeats 16000000 in
theorem zhull_ok : SpecOK Tryd.prog 15 zhull_sp zhull_sem := by
  refine spec_of_tree zhull_cxok Tryd.func15 (by kernel_rfl) (by kernel_rfl) zhull_walk rfl ?_
  intro cs hpre
  match cs, hpre with
  | [.i a, .i b, .i hu, .i lu, .i hw, .i lw], ⟨j_a, j_b, j_hu, j_lu, j_hw, j_lw⟩ =>
    have h_a := j_a
    unfold IsI at h_a
    have h_b := j_b
    unfold IsI at h_b
    have h_hu := j_hu
    unfold IsU at h_hu
    have h_lu := j_lu
    unfold IsU at h_lu
    have h_hw := j_hw
    unfold IsU at h_hw
    have h_lw := j_lw
    unfold IsU at h_lw
    refine ⟨rfl, IvsB.ok (by simp only [zhull_ivs, IvsB, Cv.int, and_true] <;> omega), ?_, ?_⟩
    · simp only [zhull_sem, zhull_sp, Fits, and_true]
      obtain ⟨⟨r1, r2⟩, r3, r4⟩ := hull_rng a b (val hu lu) (val hw lw)
      have := maskZ_rng r1 r4
      split <;> omega
    · rw [zhull_den]
      simp only [zhull_sem, zhull_sp, zhull_den, zclass_sem, less_sem, Tree.den, LE.den, Cv.list, placeA, List.getElem?_cons_zero, List.getElem?_cons_succ, IE.den, BE.den, At.den, CA.den, Env.get, Cv.int, Cv.bool, List.cons_append, List.nil_append, List.map_cons, List.map_nil, bindRes, bindEq, Fits, SV.den, denL, place, placeL, eq_t, eq_f, lt_t, lt_f, le_t, le_f, beq_iff_eq, beq_eq_false_iff_ne, ne_eq, reduceCtorEq, b_dec, decide_eq_true_eq, decide_eq_false_iff_not, Bool.not_eq_false', Bool.or_eq_true, Bool.or_eq_false_iff, Bool.and_eq_false_iff, true_iff, false_iff, Bool.false_eq_true, Bool.not_eq_true', Bool.and_eq_true, Bool.not_true, Bool.not_false, List.cons.injEq, Cv.i.injEq, Cv.b.injEq, and_true, true_and, agg_inj, tup_inj, Value.int.injEq, Value.bool.injEq]
      by_cases hr : hOK a b hu lu hw lw
      · obtain ⟨hr1, hr2, hr3⟩ := id hr
        obtain ⟨⟨r1, r2⟩, r3, r4⟩ := hull_rng a b (val hu lu) (val hw lw)
        have hLH := hull_le (a := a) (b := b) (u := val hu lu) (w := val hw lw) hr1 (by omega)
        have M := mask_shl r1 r4 hLH
        have hu60 : hu < 1152921504606846976 := by unfold val at hr2; omega
        have t1 := clsZ_rng a (val hu lu)
        have t2 := clsZ_rng a (val hw lw)
        have t3 := clsZ_rng b (val hu lu)
        have t4 := clsZ_rng b (val hw lw)
        by_cases pa : 0 < a <;> by_cases pb : b < 0
        all_goals
          simp only [hullLo, hullHi, pa, pb, if_true, if_false, true_and, and_true, false_and, and_false, true_or, or_true, false_or, or_false, true_iff, iff_true, false_iff, iff_false, not_true_eq_false, not_false_eq_true, true_implies, false_implies, implies_true, forall_const, decide_true, decide_false, reduceCtorEq] at M hLH
          simp only [hullLo, hullHi, hr, hr1, hr2, hr3, hu60, pa, pb, t1, t2, t3, t4, j_a, j_b, j_hu, j_lu, j_hw, j_lw, forall_eq, M, if_true, if_false, true_and, and_true, false_and, and_false, true_or, or_true, false_or, or_false, true_iff, iff_true, false_iff, iff_false, not_true_eq_false, not_false_eq_true, true_implies, false_implies, implies_true, forall_const, decide_true, decide_false, reduceCtorEq]
          clear M
          (repeat' (first | intro _ | refine And.intro ?_ ?_ | exact trivial)) <;> omega
      · simp only [hr, if_true, if_false, true_and, and_true, false_and, and_false, true_or, or_true, false_or, or_false, true_iff, iff_true, false_iff, iff_false, not_true_eq_false, not_false_eq_true, true_implies, false_implies, implies_true, forall_const, decide_true, decide_false, reduceCtorEq]
        unfold hOK at hr
        exact fun k1 => ⟨⟨j_hw, j_lw, j_hu, j_lu⟩, fun k2 k3 => absurd ⟨k1, k2, k3⟩ hr⟩
end Go.Proofs.YtehoiibnemjkaaaDoor.X
