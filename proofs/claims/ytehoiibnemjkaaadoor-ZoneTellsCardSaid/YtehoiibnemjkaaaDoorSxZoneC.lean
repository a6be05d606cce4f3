/-
  The contract of the reference's class (datumref13), for every input in range.
-/
import Derived.Test.YtehoiibnemjkaaaDoorSxZoneNum
import Derived.Test.YtehoiibnemjkaaaDoorSxRefProd
namespace Go.Proofs.YtehoiibnemjkaaaDoor.X
open Go Go.SX Go.RowKit
set_option linter.unusedVariables false
set_option linter.unusedSimpArgs false


def r1less_sp : SpecSh := { args := [(.agg [(.int .u64 (.z 0)), (.int .u64 (.z 0))]), (.agg [(.int .u64 (.z 0)), (.int .u64 (.z 0))])], res := (.bool .f), sh := [.b] }
set_option maxRecDepth 100000 in
def r1less_tree : Tree :=
.ite (.not (.cmp .eq (.v 0) (.v 2))) (.ret (.bool (.cmp .lt (.v 0) (.v 2)))) <|
.ret (.bool (.cmp .lt (.v 1) (.v 3)))
noncomputable def r1less_cx : Ctx := { tys := tys, fns := fns, mets := mets, sps := [], anns := [], trys := [] }
def r1less_ivs : List (Option (Int × Int)) := [some (0, 18446744073709551615), some (0, 18446744073709551615), some (0, 18446744073709551615), some (0, 18446744073709551615)]
set_option maxRecDepth 100000 in
theorem r1less_walk : runFn r1less_cx 3000 23 Tryd.f23 r1less_sp.args r1less_ivs = r1less_tree := by kernel_rfl
noncomputable def r1less_M : Nat → SpecSem
  | _ => noSem
theorem r1less_cxok : CxOK Tryd.prog r1less_cx r1less_M := ⟨tysOK, fnsOK, fun _ _ h => spNil h, mixedOK, fun _ _ h => trNil h, fun _ _ h => atNil h, metsOK⟩

def r1less_sem : SpecSem := { pre := fun cs => match cs with | [.i a, .i b, .i c, .i d] => IsU a ∧ IsU b ∧ IsU c ∧ IsU d | _ => False, out := fun cs => match cs with | [.i a, .i b, .i c, .i d] => [.b (decide (val a b < val c d))] | _ => [] }
set_option maxRecDepth 10000 in
set_option maxHeartbeats 16000000 in
theorem r1less_ok : SpecOK Tryd.prog 23 r1less_sp r1less_sem := by
  refine spec_of_tree r1less_cxok Tryd.func23 (by kernel_rfl) (by kernel_rfl) r1less_walk rfl ?_
  intro cs hpre
  match cs, hpre with
  | [.i a, .i b, .i c, .i d], ⟨j_a, j_b, j_c, j_d⟩ =>
    have h_a := j_a
    unfold IsU at h_a
    have h_b := j_b
    unfold IsU at h_b
    have h_c := j_c
    unfold IsU at h_c
    have h_d := j_d
    unfold IsU at h_d
    refine ⟨rfl, IvsB.ok (by simp only [r1less_ivs, IvsB, Cv.int, and_true] <;> omega), ?_, ?_⟩
    · simp only [r1less_sem, r1less_sp, Fits]
    · simp only [r1less_sem, r1less_sp, r1less_tree, Tree.den, LE.den, Cv.list, placeA, List.getElem?_cons_zero, List.getElem?_cons_succ, IE.den, BE.den, At.den, CA.den, Env.get, Cv.int, Cv.bool, List.cons_append, List.nil_append, List.map_cons, List.map_nil, bindRes, bindEq, Fits, SV.den, denL, place, placeL, eq_t, eq_f, lt_t, lt_f, le_t, le_f, beq_iff_eq, beq_eq_false_iff_ne, ne_eq, reduceCtorEq, b_dec, decide_eq_true_eq, decide_eq_false_iff_not, Bool.not_eq_false', Bool.or_eq_true, Bool.or_eq_false_iff, Bool.and_eq_false_iff, true_iff, false_iff, Bool.false_eq_true, Bool.not_eq_true', Bool.and_eq_true, Bool.not_true, Bool.not_false, List.cons.injEq, Cv.i.injEq, Cv.b.injEq, and_true, true_and, agg_inj, tup_inj, Value.int.injEq, Value.bool.injEq]
      unfold val
      (repeat' (first | intro _ | refine And.intro ?_ ?_ | exact trivial)) <;> omega

def r13class_sp : SpecSh := { args := [(.int .i64 (.z 0)), (.agg [(.int .u64 (.z 0)), (.int .u64 (.z 0))])], res := (.int .i64 (.z 0)), sh := [.i (some ((-4), 4))] }
set_option maxRecDepth 100000 in
def r13class_tree : Tree :=
.ite (.cmp .eq (.v 0) (.z 0)) (.ret (.int .i64 (.z 0))) <|
.call 20 [.b, .i (some (0, 18446744073709551615)), .i (some (0, 18446744073709551615))] [.i (.v 0), .i (.v 0)] <|
.call 21 [.i (some (0, 18446744073709551615)), .i (some (0, 18446744073709551615)), .b] [.i (.z 0), .i (.z 1), .i (.v 1), .i (.v 2)] <|
.call 23 [.b] [.i (.v 6), .i (.v 7), .i (.v 4), .i (.v 5)] <|
.lett (.ite (.v 9) (.z 2) (.z 1)) <|
.call 21 [.i (some (0, 18446744073709551615)), .i (some (0, 18446744073709551615)), .b] [.i (.z 0), .i (.z 4), .i (.v 1), .i (.v 2)] <|
.call 23 [.b] [.i (.v 11), .i (.v 12), .i (.v 4), .i (.v 5)] <|
.ite (.v 14) (.lett (.add (.v 10) (.z 1)) <|
.call 21 [.i (some (0, 18446744073709551615)), .i (some (0, 18446744073709551615)), .b] [.i (.z 0), .i (.z 9), .i (.v 1), .i (.v 2)] <|
.call 23 [.b] [.i (.v 16), .i (.v 17), .i (.v 4), .i (.v 5)] <|
.ite (.v 19) (.lett (.add (.v 15) (.z 1)) <|
.ite (.cmp .lt (.v 0) (.z 0)) (.lett (.sub (.z 0) (.v 20)) <|
.ret (.int .i64 (.v 21))) <|
.ret (.int .i64 (.v 20))) <|
.ite (.cmp .lt (.v 0) (.z 0)) (.lett (.sub (.z 0) (.v 15)) <|
.ret (.int .i64 (.v 20))) <|
.ret (.int .i64 (.v 15))) <|
.call 21 [.i (some (0, 18446744073709551615)), .i (some (0, 18446744073709551615)), .b] [.i (.z 0), .i (.z 9), .i (.v 1), .i (.v 2)] <|
.call 23 [.b] [.i (.v 15), .i (.v 16), .i (.v 4), .i (.v 5)] <|
.ite (.v 18) (.lett (.add (.v 10) (.z 1)) <|
.ite (.cmp .lt (.v 0) (.z 0)) (.lett (.sub (.z 0) (.v 19)) <|
.ret (.int .i64 (.v 20))) <|
.ret (.int .i64 (.v 19))) <|
.ite (.cmp .lt (.v 0) (.z 0)) (.lett (.sub (.z 0) (.v 10)) <|
.ret (.int .i64 (.v 19))) <|
.ret (.int .i64 (.v 10))
noncomputable def r13class_cx : Ctx := { tys := tys, fns := fns, mets := mets, sps := [(20, r4prod_sp), (21, rtimes_sp), (23, r1less_sp)], anns := [], trys := [] }
def r13class_ivs : List (Option (Int × Int)) := [some ((-9223372036854775808), 9223372036854775807), some (0, 18446744073709551615), some (0, 18446744073709551615)]
set_option maxRecDepth 100000 in
theorem r13class_walk : runFn r13class_cx 3000 13 Tryd.f13 r13class_sp.args r13class_ivs = r13class_tree := by kernel_rfl
noncomputable def r13class_M : Nat → SpecSem
  | 20 => r4prod_sem
  | 21 => rtimes_sem
  | 23 => r1less_sem
  | _ => noSem
theorem r13class_M20 : r13class_M 20 = r4prod_sem := rfl
theorem r13class_M21 : r13class_M 21 = rtimes_sem := rfl
theorem r13class_M23 : r13class_M 23 = r1less_sem := rfl
theorem r13class_cxok : CxOK Tryd.prog r13class_cx r13class_M := ⟨tysOK, fnsOK, spCons r4prod_ok <| spCons rtimes_ok <| spCons r1less_ok <| fun _ _ h => spNil h, mixedOK, fun _ _ h => trNil h, fun _ _ h => atNil h, metsOK⟩
set_option maxRecDepth 100000 in
set_option maxHeartbeats 8000000 in
theorem r13class_den (R RP : Value → Prop) (F : Ex → St → Js → Env → Prop) (J : Js) (x0 : Int) (x1 : Int) (x2 : Int) : Tree.den r13class_M R RP F r13class_tree J [(.i x0), (.i x1), (.i x2)] = (
  ((Cmp.den .eq x0 (0 : Int)) = true → R (Value.int .i64 (0 : Int))) ∧ ((Cmp.den .eq x0 (0 : Int)) = false → (r4prod_sem.pre [(.i x0), (.i x0)]) ∧ (
∀ x4 : Int, x4 = (Cv.int (Env.get (r4prod_sem.out [(.i x0), (.i x0)]) 1)) → (0 : Int) ≤ x4 → x4 ≤ (18446744073709551615 : Int) →
∀ x5 : Int, x5 = (Cv.int (Env.get (r4prod_sem.out [(.i x0), (.i x0)]) 2)) → (0 : Int) ≤ x5 → x5 ≤ (18446744073709551615 : Int) →
(rtimes_sem.pre [(.i (0 : Int)), (.i (1 : Int)), (.i x1), (.i x2)]) ∧ (
∀ x6 : Int, x6 = (Cv.int (Env.get (rtimes_sem.out [(.i (0 : Int)), (.i (1 : Int)), (.i x1), (.i x2)]) 0)) → (0 : Int) ≤ x6 → x6 ≤ (18446744073709551615 : Int) →
∀ x7 : Int, x7 = (Cv.int (Env.get (rtimes_sem.out [(.i (0 : Int)), (.i (1 : Int)), (.i x1), (.i x2)]) 1)) → (0 : Int) ≤ x7 → x7 ≤ (18446744073709551615 : Int) →
(r1less_sem.pre [(.i x6), (.i x7), (.i x4), (.i x5)]) ∧ (
∀ x10 : Int, x10 = (if (Cv.bool (Env.get (r1less_sem.out [(.i x6), (.i x7), (.i x4), (.i x5)]) 0)) = true then (2 : Int) else (1 : Int)) →
(rtimes_sem.pre [(.i (0 : Int)), (.i (4 : Int)), (.i x1), (.i x2)]) ∧ (
∀ x11 : Int, x11 = (Cv.int (Env.get (rtimes_sem.out [(.i (0 : Int)), (.i (4 : Int)), (.i x1), (.i x2)]) 0)) → (0 : Int) ≤ x11 → x11 ≤ (18446744073709551615 : Int) →
∀ x12 : Int, x12 = (Cv.int (Env.get (rtimes_sem.out [(.i (0 : Int)), (.i (4 : Int)), (.i x1), (.i x2)]) 1)) → (0 : Int) ≤ x12 → x12 ≤ (18446744073709551615 : Int) →
(r1less_sem.pre [(.i x11), (.i x12), (.i x4), (.i x5)]) ∧ (
((Cv.bool (Env.get (r1less_sem.out [(.i x11), (.i x12), (.i x4), (.i x5)]) 0)) = true → ∀ x15 : Int, x15 = (x10 + (1 : Int)) →
(rtimes_sem.pre [(.i (0 : Int)), (.i (9 : Int)), (.i x1), (.i x2)]) ∧ (
∀ x16 : Int, x16 = (Cv.int (Env.get (rtimes_sem.out [(.i (0 : Int)), (.i (9 : Int)), (.i x1), (.i x2)]) 0)) → (0 : Int) ≤ x16 → x16 ≤ (18446744073709551615 : Int) →
∀ x17 : Int, x17 = (Cv.int (Env.get (rtimes_sem.out [(.i (0 : Int)), (.i (9 : Int)), (.i x1), (.i x2)]) 1)) → (0 : Int) ≤ x17 → x17 ≤ (18446744073709551615 : Int) →
(r1less_sem.pre [(.i x16), (.i x17), (.i x4), (.i x5)]) ∧ (
((Cv.bool (Env.get (r1less_sem.out [(.i x16), (.i x17), (.i x4), (.i x5)]) 0)) = true → ∀ x20 : Int, x20 = (x15 + (1 : Int)) →
((Cmp.den .lt x0 (0 : Int)) = true → ∀ x21 : Int, x21 = ((0 : Int) - x20) →
R (Value.int .i64 x21)) ∧ ((Cmp.den .lt x0 (0 : Int)) = false → R (Value.int .i64 x20))) ∧ ((Cv.bool (Env.get (r1less_sem.out [(.i x16), (.i x17), (.i x4), (.i x5)]) 0)) = false → ((Cmp.den .lt x0 (0 : Int)) = true → ∀ x20 : Int, x20 = ((0 : Int) - x15) →
R (Value.int .i64 x20)) ∧ ((Cmp.den .lt x0 (0 : Int)) = false → R (Value.int .i64 x15)))))) ∧ ((Cv.bool (Env.get (r1less_sem.out [(.i x11), (.i x12), (.i x4), (.i x5)]) 0)) = false → (rtimes_sem.pre [(.i (0 : Int)), (.i (9 : Int)), (.i x1), (.i x2)]) ∧ (
∀ x15 : Int, x15 = (Cv.int (Env.get (rtimes_sem.out [(.i (0 : Int)), (.i (9 : Int)), (.i x1), (.i x2)]) 0)) → (0 : Int) ≤ x15 → x15 ≤ (18446744073709551615 : Int) →
∀ x16 : Int, x16 = (Cv.int (Env.get (rtimes_sem.out [(.i (0 : Int)), (.i (9 : Int)), (.i x1), (.i x2)]) 1)) → (0 : Int) ≤ x16 → x16 ≤ (18446744073709551615 : Int) →
(r1less_sem.pre [(.i x15), (.i x16), (.i x4), (.i x5)]) ∧ (
((Cv.bool (Env.get (r1less_sem.out [(.i x15), (.i x16), (.i x4), (.i x5)]) 0)) = true → ∀ x19 : Int, x19 = (x10 + (1 : Int)) →
((Cmp.den .lt x0 (0 : Int)) = true → ∀ x20 : Int, x20 = ((0 : Int) - x19) →
R (Value.int .i64 x20)) ∧ ((Cmp.den .lt x0 (0 : Int)) = false → R (Value.int .i64 x19))) ∧ ((Cv.bool (Env.get (r1less_sem.out [(.i x15), (.i x16), (.i x4), (.i x5)]) 0)) = false → ((Cmp.den .lt x0 (0 : Int)) = true → ∀ x19 : Int, x19 = ((0 : Int) - x10) →
R (Value.int .i64 x19)) ∧ ((Cmp.den .lt x0 (0 : Int)) = false → R (Value.int .i64 x10))))))))))))) := by kernel_rfl

def r13class_sem : SpecSem := { pre := fun cs => match cs with | [.i d, .i h, .i l] => IsI d ∧ IsU h ∧ IsU l ∧ (h < 1152921504606846976) | _ => False, out := fun cs => match cs with | [.i d, .i h, .i l] => [.i (clsZ d (val h l))] | _ => [] }
set_option maxRecDepth 10000 in
set_option maxHeartbeats 16000000 in
theorem r13class_ok : SpecOK Tryd.prog 13 r13class_sp r13class_sem := by
  refine spec_of_tree r13class_cxok Tryd.func13 (by kernel_rfl) (by kernel_rfl) r13class_walk rfl ?_
  intro cs hpre
  match cs, hpre with
  | [.i d, .i h, .i l], ⟨j_d, j_h, j_l, hx⟩ =>
    have h_d := j_d
    unfold IsI at h_d
    have h_h := j_h
    unfold IsU at h_h
    have h_l := j_l
    unfold IsU at h_l
    refine ⟨rfl, IvsB.ok (by simp only [r13class_ivs, IvsB, Cv.int, and_true] <;> omega), ?_, ?_⟩
    · simp only [r13class_sem, r13class_sp, Fits, and_true]; exact clsZ_rng _ _
    · have hq := sq_i j_d
      have habs : absZ d * absZ d = d * d := by unfold absZ; split <;> first | rfl | exact Int.neg_mul_neg d d
      rw [r13class_den]
      have hv : 0 ≤ val h l ∧ val h l < 21267647932558653966460912964485513216 := by unfold val; omega
      have e1 := vq2 (x := 1 * val h l) (by omega) (by omega)
      have e4 := vq2 (x := 4 * val h l) (by omega) (by omega)
      have e9 := vq2 (x := 9 * val h l) (by omega) (by omega)
      simp only [r13class_sem, r13class_sp, clsZ, clsN, IsU, v01, v04, v09, forall_eq, habs, j_d, r13class_den, r4prod_sem, rtimes_sem, r1less_sem, Tree.den, LE.den, Cv.list, placeA, List.getElem?_cons_zero, List.getElem?_cons_succ, IE.den, BE.den, At.den, CA.den, Env.get, Cv.int, Cv.bool, List.cons_append, List.nil_append, List.map_cons, List.map_nil, bindRes, bindEq, Fits, SV.den, denL, place, placeL, eq_t, eq_f, lt_t, lt_f, le_t, le_f, beq_iff_eq, beq_eq_false_iff_ne, ne_eq, reduceCtorEq, b_dec, decide_eq_true_eq, decide_eq_false_iff_not, Bool.not_eq_false', Bool.or_eq_true, Bool.or_eq_false_iff, Bool.and_eq_false_iff, true_iff, false_iff, Bool.false_eq_true, Bool.not_eq_true', Bool.and_eq_true, Bool.not_true, Bool.not_false, List.cons.injEq, Cv.i.injEq, Cv.b.injEq, and_true, true_and, agg_inj, tup_inj, Value.int.injEq, Value.bool.injEq]
      simp only [vq, e1, e4, e9]
      generalize d * d = q at *
      generalize val h l = v at *
      clear e1 e4 e9 habs
      (repeat' (first | intro _ | refine And.intro ?_ ?_ | exact trivial)) <;> omega
end Go.Proofs.YtehoiibnemjkaaaDoor.X
