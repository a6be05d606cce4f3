/-
  zone.Ends, and the sign of life of zone's laws, by contract.
-/
import Derived.Test.YtehoiibnemjkaaaDoorSxTz
import Derived.Test.YtehoiibnemjkaaaDoorSxZoneP
import Derived.Test.YtehoiibnemjkaaaDoorSxZoneHas
namespace Go.Proofs.YtehoiibnemjkaaaDoor.X
open Go Go.SX
set_option linter.unusedVariables false
set_option linter.unusedSimpArgs false




def zends_sp : SpecSh := { args := [(.int .i64 (.z 0))], res := (.tup [(.int .i64 (.z 0)), (.int .i64 (.z 0)), (.int .i64 (.z 0))]), sh := [.i (some ((-9223372036854775808), 9223372036854775807)), .i (some ((-9223372036854775808), 9223372036854775807)), .i (some ((-9223372036854775808), 9223372036854775807))] }
set_option maxRecDepth 100000 in
def zends_tree : Tree :=
.ite (.cmp .lt (.z 0) (.v 0)) (.ite (.not (.cmp .lt (.v 0) (.z 512))) (.ret (.tup [(.int .i64 (.z 0)), (.int .i64 (.z 0)), (.int .i64 (.z 1))])) <|
.call 18 [.i (some ((-9223372036854775808), 9223372036854775807))] [.i (.v 0)] <|
.lett (.subw .i64 (.v 1) (.z 4)) <|
.call 19 [.i (some ((-9223372036854775808), 9223372036854775807))] [.i (.v 0)] <|
.lett (.subw .i64 (.v 3) (.z 1)) <|
.lett (.subw .i64 (.v 4) (.z 4)) <|
.ret (.tup [(.int .i64 (.v 2)), (.int .i64 (.v 5)), (.int .i64 (.z 0))])) <|
.ret (.tup [(.int .i64 (.z 0)), (.int .i64 (.z 0)), (.int .i64 (.z 1))])
noncomputable def zends_cx : Ctx := { tys := tys, fns := fns, mets := mets, sps := [(18, tz_sp), (19, blen_sp)], anns := [], trys := [] }
def zends_ivs : List (Option (Int × Int)) := [some ((-9223372036854775808), 9223372036854775807)]
set_option maxRecDepth 100000 in
theorem zends_walk : runFn zends_cx 3000 6 Tryd.f6 zends_sp.args zends_ivs = zends_tree := by kernel_rfl
noncomputable def zends_M : Nat → SpecSem
  | 18 => tz_sem
  | 19 => blen_sem
  | _ => noSem
theorem zends_M18 : zends_M 18 = tz_sem := rfl
theorem zends_M19 : zends_M 19 = blen_sem := rfl
theorem zends_cxok : CxOK Tryd.prog zends_cx zends_M tzG := ⟨tysOK, fnsOK, spCons tz_ok <| spCons blen_ok <| fun _ _ h => spNil h, mixedOK, fun _ _ h => trNil h, fun _ _ h => atNil h, metsOK⟩
set_option maxRecDepth 100000 in
set_option maxHeartbeats 8000000 in
theorem zends_den (R RP : Value → Prop) (F : Ex → St → Js → Env → Prop) (J : Js) (x0 : Int) : Tree.den zends_M R RP F zends_tree J [(.i x0)] = (
  ((Cmp.den .lt (0 : Int) x0) = true → ((!(Cmp.den .lt x0 (512 : Int))) = true → R (Value.tuple [(Value.int .i64 (0 : Int)), (Value.int .i64 (0 : Int)), (Value.int .i64 (1 : Int))].toArray)) ∧ ((!(Cmp.den .lt x0 (512 : Int))) = false → (tz_sem.pre [(.i x0)]) ∧ (
∀ x1 : Int, x1 = (Cv.int (Env.get (tz_sem.out [(.i x0)]) 0)) → (-9223372036854775808 : Int) ≤ x1 → x1 ≤ (9223372036854775807 : Int) →
∀ x2 : Int, x2 = (IntKind.i64.wrap (x1 - (4 : Int))) →
(blen_sem.pre [(.i x0)]) ∧ (
∀ x3 : Int, x3 = (Cv.int (Env.get (blen_sem.out [(.i x0)]) 0)) → (-9223372036854775808 : Int) ≤ x3 → x3 ≤ (9223372036854775807 : Int) →
∀ x4 : Int, x4 = (IntKind.i64.wrap (x3 - (1 : Int))) →
∀ x5 : Int, x5 = (IntKind.i64.wrap (x4 - (4 : Int))) →
R (Value.tuple [(Value.int .i64 x2), (Value.int .i64 x5), (Value.int .i64 (0 : Int))].toArray))))) ∧ ((Cmp.den .lt (0 : Int) x0) = false → R (Value.tuple [(Value.int .i64 (0 : Int)), (Value.int .i64 (0 : Int)), (Value.int .i64 (1 : Int))].toArray))) := by kernel_rfl

def zends_sem : SpecSem := { pre := fun cs => match cs with | [.i m] => IsI m | _ => False, out := fun cs => match cs with | [.i m] => [.i (if 1 ≤ m ∧ m ≤ 511 then tzN m - 4 else 0), .i (if 1 ≤ m ∧ m ≤ 511 then lenN m - 5 else 0), .i (if 1 ≤ m ∧ m ≤ 511 then 0 else 1)] | _ => [], g := tzG }
set_option maxRecDepth 10000 in
set_option maxHeartbeats 16000000 in
theorem zends_ok : SpecOK Tryd.prog 6 zends_sp zends_sem := by
  refine spec_of_tree zends_cxok Tryd.func6 (by kernel_rfl) (by kernel_rfl) zends_walk rfl ?_
  intro cs hpre
  match cs, hpre with
  | [.i m], j_m =>
    have j_m : IsI m := j_m
    have h_m := j_m
    unfold IsI at h_m
    refine ⟨rfl, IvsB.ok (by simp only [zends_ivs, IvsB, Cv.int, and_true] <;> omega), ?_, ?_⟩
    · simp only [zends_sem, zends_sp, Fits, and_true]
      by_cases h : 1 ≤ m ∧ m ≤ 511
      · have := tz_rng h.1 h.2
        simp only [if_pos h]; omega
      · simp only [if_neg h]; omega
    · rw [zends_den]
      by_cases h : 1 ≤ m ∧ m ≤ 511
      · obtain ⟨t1, t2, t3, t4⟩ := tz_rng h.1 h.2
        have w1 : IntKind.i64.wrap (tzN m - 4) = tzN m - 4 := w64 (by omega) (by omega)
        have w2 : IntKind.i64.wrap (lenN m - 1) = lenN m - 1 := w64 (by omega) (by omega)
        have w3 : IntKind.i64.wrap (lenN m - 1 - 4) = lenN m - 1 - 4 := w64 (by omega) (by omega)
        simp only [zends_sem, zends_sp, tz_sem, blen_sem, zends_den, tz_sem, blen_sem, Tree.den, LE.den, Cv.list, placeA, List.getElem?_cons_zero, List.getElem?_cons_succ, IE.den, BE.den, At.den, CA.den, Env.get, Cv.int, Cv.bool, List.cons_append, List.nil_append, List.map_cons, List.map_nil, bindRes, bindEq, Fits, SV.den, denL, place, placeL, eq_t, eq_f, lt_t, lt_f, le_t, le_f, beq_iff_eq, beq_eq_false_iff_ne, ne_eq, reduceCtorEq, b_dec, decide_eq_true_eq, decide_eq_false_iff_not, Bool.not_eq_false', Bool.or_eq_true, Bool.or_eq_false_iff, Bool.and_eq_false_iff, true_iff, false_iff, Bool.false_eq_true, Bool.not_eq_true', Bool.and_eq_true, Bool.not_true, Bool.not_false, List.cons.injEq, Cv.i.injEq, Cv.b.injEq, and_true, true_and, agg_inj, tup_inj, Value.int.injEq, Value.bool.injEq, h.1, h.2, w1, w2, w3, forall_eq, if_true, if_false, true_and, and_true, false_and, and_false, true_or, or_true, false_or, or_false, true_iff, iff_true, false_iff, iff_false, not_true_eq_false, not_false_eq_true, true_implies, false_implies, implies_true, forall_const, decide_true, decide_false, reduceCtorEq]
        clear w1 w2 w3
        (repeat' (first | intro _ | refine And.intro ?_ ?_ | exact trivial)) <;> omega
      · simp only [zends_sem, zends_sp, tz_sem, blen_sem, zends_den, tz_sem, blen_sem, Tree.den, LE.den, Cv.list, placeA, List.getElem?_cons_zero, List.getElem?_cons_succ, IE.den, BE.den, At.den, CA.den, Env.get, Cv.int, Cv.bool, List.cons_append, List.nil_append, List.map_cons, List.map_nil, bindRes, bindEq, Fits, SV.den, denL, place, placeL, eq_t, eq_f, lt_t, lt_f, le_t, le_f, beq_iff_eq, beq_eq_false_iff_ne, ne_eq, reduceCtorEq, b_dec, decide_eq_true_eq, decide_eq_false_iff_not, Bool.not_eq_false', Bool.or_eq_true, Bool.or_eq_false_iff, Bool.and_eq_false_iff, true_iff, false_iff, Bool.false_eq_true, Bool.not_eq_true', Bool.and_eq_true, Bool.not_true, Bool.not_false, List.cons.injEq, Cv.i.injEq, Cv.b.injEq, and_true, true_and, agg_inj, tup_inj, Value.int.injEq, Value.bool.injEq, if_neg h]
        (repeat' (first | intro _ | refine And.intro ?_ ?_ | exact trivial)) <;> omega
def zal_sp : SpecSh := { args := [], res := (.bool .f), sh := [.b] }
set_option maxRecDepth 100000 in
def zal_tree : Tree :=
.call 5 [.i (some ((-4), 4)), .i (some (0, 1))] [.i (.z 6), .i (.z 0), .i (.z 9)] <|
.call 5 [.i (some ((-4), 4)), .i (some (0, 1))] [.i (.z 7), .i (.z 0), .i (.z 9)] <|
.call 5 [.i (some ((-4), 4)), .i (some (0, 1))] [.i (.z (-10)), .i (.z 0), .i (.z 9)] <|
.ite (.cmp .eq (.v 1) (.z 0)) (.ite (.cmp .eq (.v 3) (.z 0)) (.ite (.cmp .eq (.v 5) (.z 0)) (.ite (.cmp .eq (.v 0) (.z 2)) (.ite (.cmp .eq (.v 2) (.z 3)) (.ret (.bool (.cmp .eq (.v 4) (.z (-4))))) <|
.ret (.bool .f)) <|
.ret (.bool .f)) <|
.ret (.bool .f)) <|
.ret (.bool .f)) <|
.ret (.bool .f)
noncomputable def zal_cx : Ctx := { tys := tys, fns := fns, mets := mets, sps := [(5, zClass_sp)], anns := [], trys := [] }
def zal_ivs : List (Option (Int × Int)) := []
set_option maxRecDepth 100000 in
theorem zal_walk : runFn zal_cx 3000 9 Tryd.f9 zal_sp.args zal_ivs = zal_tree := by kernel_rfl
noncomputable def zal_M : Nat → SpecSem
  | 5 => zClass_sem
  | _ => noSem
theorem zal_M5 : zal_M 5 = zClass_sem := rfl
theorem zal_cxok : CxOK Tryd.prog zal_cx zal_M := ⟨tysOK, fnsOK, spCons zClass_ok <| fun _ _ h => spNil h, mixedOK, fun _ _ h => trNil h, fun _ _ h => atNil h, metsOK⟩

def zal_sem : SpecSem := { pre := fun cs => match cs with | [] => True | _ => False, out := fun cs => match cs with | [] => [.b true] | _ => [] }
set_option maxRecDepth 10000 in
set_option maxHeartbeats 16000000 in
theorem zal_ok : SpecOK Tryd.prog 9 zal_sp zal_sem := by
  refine spec_of_tree zal_cxok Tryd.func9 (by kernel_rfl) (by kernel_rfl) zal_walk rfl ?_
  intro cs hpre
  match cs, hpre with
  | [], _ =>
    refine ⟨rfl, IvsB.ok (by simp only [zal_ivs, IvsB, Cv.int, and_true] <;> omega), ?_, ?_⟩
    · simp only [zal_sem, zal_sp, Fits]
    · have e1 : clsZ 6 (val 0 9) = 2 := by decide
      have e2 : clsZ 7 (val 0 9) = 3 := by decide
      have e3 : clsZ (-10) (val 0 9) = -4 := by decide
      have k6 : IsI 6 := ⟨by omega, by omega⟩
      have k7 : IsI 7 := ⟨by omega, by omega⟩
      have k10 : IsI (-10) := ⟨by omega, by omega⟩
      have u0 : IsU 0 := ⟨by omega, by omega⟩
      have u9 : IsU 9 := ⟨by omega, by omega⟩
      have y : ((0 : Int) < 1152921504606846976) = True := by simp
      simp only [zal_sem, zal_sp, zClass_sem, zal_tree, zal_M5, zClass_sem, Tree.den, LE.den, Cv.list, placeA, List.getElem?_cons_zero, List.getElem?_cons_succ, IE.den, BE.den, At.den, CA.den, Env.get, Cv.int, Cv.bool, List.cons_append, List.nil_append, List.map_cons, List.map_nil, bindRes, bindEq, Fits, SV.den, denL, place, placeL, eq_t, eq_f, lt_t, lt_f, le_t, le_f, beq_iff_eq, beq_eq_false_iff_ne, ne_eq, reduceCtorEq, b_dec, decide_eq_true_eq, decide_eq_false_iff_not, Bool.not_eq_false', Bool.or_eq_true, Bool.or_eq_false_iff, Bool.and_eq_false_iff, true_iff, false_iff, Bool.false_eq_true, Bool.not_eq_true', Bool.and_eq_true, Bool.not_true, Bool.not_false, List.cons.injEq, Cv.i.injEq, Cv.b.injEq, and_true, true_and, agg_inj, tup_inj, Value.int.injEq, Value.bool.injEq, e1, e2, e3, k6, k7, k10, u0, u9, y, forall_eq, eq_self, if_true, if_false, true_and, and_true, false_and, and_false, true_or, or_true, false_or, or_false, true_iff, iff_true, false_iff, iff_false, not_true_eq_false, not_false_eq_true, true_implies, false_implies, implies_true, forall_const, decide_true, decide_false, reduceCtorEq]
end Go.Proofs.YtehoiibnemjkaaaDoor.X
