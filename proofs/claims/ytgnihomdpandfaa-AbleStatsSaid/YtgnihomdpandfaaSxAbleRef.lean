/-
  The contracts of the reference's worth of stats (datumref20), for every input in range.
-/
import Derived.Test.YtgnihomdpandfaaSxAbleNum
import Derived.Test.YtgnihomdpandfaaSxStatRef
import Derived.Test.YtgnihomdpandfaaSxRefRoot
import Derived.Test.YtgnihomdpandfaaSxRefDiv
namespace Go.Proofs.Ytgnihomdpandfaa.X
open Go Go.SX Go.RowKit
set_option linter.unusedVariables false
set_option linter.unusedSimpArgs false








def r20st_sp : SpecSh := { args := [(.agg [(.int .i64 (.z 0)), (.int .i64 (.z 0)), (.int .u64 (.z 0)), (.int .u64 (.z 0)), (.int .i64 (.z 0)), (.int .i64 (.z 0))]), (.int .i64 (.z 0)), (.int .i64 (.z 0)), (.int .i64 (.z 0))], res := (.int .i64 (.z 0)), sh := [.i (some ((-9223372036854775808), 9223372036854775807))] }
set_option maxRecDepth 100000 in
def r20st_tree : Tree :=
.call 24 [.b] [.i (.v 0), .i (.v 1), .i (.v 2), .i (.v 3), .i (.v 4), .i (.v 5)] <|
.ite (.not (.v 9)) (.ret (.int .i64 (.z 1))) <|
.ite (.cmp .le (.z (-1000000)) (.v 6)) (.ite (.cmp .le (.v 7) (.z 1000000)) (.ite (.not (.cmp .lt (.v 6) (.v 7))) (.ret (.int .i64 (.z 1))) <|
.ite (.cmp .lt (.v 8) (.z 1)) (.ret (.int .i64 (.z 3))) <|
.ite (.cmp .lt (.z 1000) (.v 8)) (.ret (.int .i64 (.z 3))) <|
.ite (.cmp .lt (.v 0) (.z 2)) (.ret (.int .i64 (.z 12))) <|
.ite (.cmp .lt (.z 1000) (.v 0)) (.ret (.int .i64 (.z 2))) <|
.call 27 [.i (some (0, 18446744073709551615)), .i (some (0, 18446744073709551615))] [.i (.v 0), .i (.v 1), .i (.v 2), .i (.v 3), .i (.v 4), .i (.v 5)] <|
.ite (.and (.cmp .eq (.v 10) (.z 0)) (.cmp .eq (.v 11) (.z 0))) (.ret (.int .i64 (.z 6))) <|
.ret (.int .i64 (.z 0))) <|
.ret (.int .i64 (.z 1))) <|
.ret (.int .i64 (.z 1))
noncomputable def r20st_cx : Ctx := { tys := tys, fns := fns, sps := [(24, r11right_sp), (27, r11sp_sp)], anns := [], trys := [] }
def r20st_ivs : List (Option (Int × Int)) := [some ((-9223372036854775808), 9223372036854775807), some ((-9223372036854775808), 9223372036854775807), some (0, 18446744073709551615), some (0, 18446744073709551615), some ((-9223372036854775808), 9223372036854775807), some ((-9223372036854775808), 9223372036854775807), some ((-9223372036854775808), 9223372036854775807), some ((-9223372036854775808), 9223372036854775807), some ((-9223372036854775808), 9223372036854775807)]
set_option maxRecDepth 100000 in
theorem r20st_walk : runFn r20st_cx 3000 31 Try.f31 r20st_sp.args r20st_ivs = r20st_tree := by kernel_rfl
noncomputable def r20st_M : Nat → SpecSem
  | 24 => r11right_sem
  | 27 => r11sp_sem
  | _ => noSem
theorem r20st_M24 : r20st_M 24 = r11right_sem := rfl
theorem r20st_M27 : r20st_M 27 = r11sp_sem := rfl
theorem r20st_cxok : CxOK Try.prog r20st_cx r20st_M := ⟨tysOK, fnsOK, spCons r11right_ok <| spCons r11sp_ok <| fun _ _ h => spNil h, mixedOK, fun _ _ h => trNil h⟩
set_option maxRecDepth 100000 in
set_option maxHeartbeats 8000000 in
theorem r20st_den (R RP : Value → Prop) (F : Ex → St → Js → Env → Prop) (J : Js) (x0 : Int) (x1 : Int) (x2 : Int) (x3 : Int) (x4 : Int) (x5 : Int) (x6 : Int) (x7 : Int) (x8 : Int) : Tree.den r20st_M R RP F r20st_tree J [(.i x0), (.i x1), (.i x2), (.i x3), (.i x4), (.i x5), (.i x6), (.i x7), (.i x8)] = (
  (r11right_sem.pre [(.i x0), (.i x1), (.i x2), (.i x3), (.i x4), (.i x5)]) ∧ (
((!(Cv.bool (Env.get (r11right_sem.out [(.i x0), (.i x1), (.i x2), (.i x3), (.i x4), (.i x5)]) 0))) = true → R (Value.int .i64 (1 : Int))) ∧ ((!(Cv.bool (Env.get (r11right_sem.out [(.i x0), (.i x1), (.i x2), (.i x3), (.i x4), (.i x5)]) 0))) = false → ((Cmp.den .le (-1000000 : Int) x6) = true → ((Cmp.den .le x7 (1000000 : Int)) = true → ((!(Cmp.den .lt x6 x7)) = true → R (Value.int .i64 (1 : Int))) ∧ ((!(Cmp.den .lt x6 x7)) = false → ((Cmp.den .lt x8 (1 : Int)) = true → R (Value.int .i64 (3 : Int))) ∧ ((Cmp.den .lt x8 (1 : Int)) = false → ((Cmp.den .lt (1000 : Int) x8) = true → R (Value.int .i64 (3 : Int))) ∧ ((Cmp.den .lt (1000 : Int) x8) = false → ((Cmp.den .lt x0 (2 : Int)) = true → R (Value.int .i64 (12 : Int))) ∧ ((Cmp.den .lt x0 (2 : Int)) = false → ((Cmp.den .lt (1000 : Int) x0) = true → R (Value.int .i64 (2 : Int))) ∧ ((Cmp.den .lt (1000 : Int) x0) = false → (r11sp_sem.pre [(.i x0), (.i x1), (.i x2), (.i x3), (.i x4), (.i x5)]) ∧ (
∀ x10 : Int, x10 = (Cv.int (Env.get (r11sp_sem.out [(.i x0), (.i x1), (.i x2), (.i x3), (.i x4), (.i x5)]) 0)) → (0 : Int) ≤ x10 → x10 ≤ (18446744073709551615 : Int) →
∀ x11 : Int, x11 = (Cv.int (Env.get (r11sp_sem.out [(.i x0), (.i x1), (.i x2), (.i x3), (.i x4), (.i x5)]) 1)) → (0 : Int) ≤ x11 → x11 ≤ (18446744073709551615 : Int) →
(((Cmp.den .eq x10 (0 : Int)) && (Cmp.den .eq x11 (0 : Int))) = true → R (Value.int .i64 (6 : Int))) ∧ (((Cmp.den .eq x10 (0 : Int)) && (Cmp.den .eq x11 (0 : Int))) = false → R (Value.int .i64 (0 : Int)))))))))) ∧ ((Cmp.den .le x7 (1000000 : Int)) = false → R (Value.int .i64 (1 : Int)))) ∧ ((Cmp.den .le (-1000000 : Int) x6) = false → R (Value.int .i64 (1 : Int)))))) := by kernel_rfl

def r20st_sem : SpecSem := { pre := fun cs => match cs with | [.i n, .i s, .i h, .i l, .i mn, .i mx, .i a, .i b, .i k] => IsI n ∧ IsI s ∧ IsU h ∧ IsU l ∧ IsI mn ∧ IsI mx ∧ IsI a ∧ IsI b ∧ IsI k | _ => False, out := fun cs => match cs with | [.i n, .i s, .i h, .i l, .i mn, .i mx, .i a, .i b, .i k] => [.i (abE n s h l mn mx a b k)] | _ => [] }
set_option maxRecDepth 10000 in
set_option maxHeartbeats 16000000 in
theorem r20st_ok : SpecOK Try.prog 31 r20st_sp r20st_sem := by
  refine spec_of_tree r20st_cxok Try.func31 (by kernel_rfl) (by kernel_rfl) r20st_walk rfl ?_
  intro cs hpre
  match cs, hpre with
  | [.i n, .i s, .i h, .i l, .i mn, .i mx, .i a, .i b, .i k], ⟨j_n, j_s, j_h, j_l, j_mn, j_mx, j_a, j_b, j_k⟩ =>
    have h_n := j_n
    unfold IsI at h_n
    have h_s := j_s
    unfold IsI at h_s
    have h_h := j_h
    unfold IsU at h_h
    have h_l := j_l
    unfold IsU at h_l
    have h_mn := j_mn
    unfold IsI at h_mn
    have h_mx := j_mx
    unfold IsI at h_mx
    have h_a := j_a
    unfold IsI at h_a
    have h_b := j_b
    unfold IsI at h_b
    have h_k := j_k
    unfold IsI at h_k
    refine ⟨rfl, IvsB.ok (by simp only [r20st_ivs, IvsB, Cv.int, and_true] <;> omega), ?_, ?_⟩
    · simp only [r20st_sem, r20st_sp, Fits, and_true]
      have := abE_rng n s h l mn mx a b k
      omega
    · rw [r20st_den]
      simp only [r20st_sem, r20st_sp, r20st_den, r11right_sem, r11sp_sem, Tree.den, LE.den, Cv.list, placeA, List.getElem?_cons_zero, List.getElem?_cons_succ, IE.den, BE.den, At.den, CA.den, Env.get, Cv.int, Cv.bool, List.cons_append, List.nil_append, List.map_cons, List.map_nil, bindRes, bindEq, Fits, SV.den, denL, place, placeL, eq_t, eq_f, lt_t, lt_f, le_t, le_f, beq_iff_eq, beq_eq_false_iff_ne, ne_eq, reduceCtorEq, b_dec, decide_eq_true_eq, decide_eq_false_iff_not, Bool.not_eq_false', Bool.or_eq_true, Bool.or_eq_false_iff, Bool.and_eq_false_iff, true_iff, false_iff, Bool.false_eq_true, Bool.not_eq_true', Bool.and_eq_true, Bool.not_true, Bool.not_false, List.cons.injEq, Cv.i.injEq, Cv.b.injEq, and_true, true_and, agg_inj, tup_inj, Value.int.injEq, Value.bool.injEq]
      by_cases c1 : stOK n s h l mn mx
      · obtain ⟨r1, r2, r3, r4, r5, r6⟩ := st_rng j_h j_l c1
        have z : ((n * val h l - s * s) / 18446744073709551616 = 0 ∧ (n * val h l - s * s) % 18446744073709551616 = 0) = (n * val h l - s * s = 0) := propext ⟨fun k => by omega, fun k => by omega⟩
        have z2 : (¬ (n * val h l - s * s) / 18446744073709551616 = 0 ∨ ¬ (n * val h l - s * s) % 18446744073709551616 = 0) = ¬ (n * val h l - s * s = 0) := propext ⟨fun k => by omega, fun k => by omega⟩
        simp only [abE, c1, j_n, j_s, j_h, j_l, j_mn, j_mx, z, z2, forall_eq, eq_self, if_true, if_false, true_and, and_true, false_and, and_false, true_or, or_true, false_or, or_false, true_iff, iff_true, false_iff, iff_false, not_true_eq_false, not_false_eq_true, true_implies, false_implies, implies_true, forall_const, decide_true, decide_false, reduceCtorEq]
        generalize n * val h l - s * s = SP at *
        by_cases c2 : -1000000 ≤ a ∧ b ≤ 1000000 ∧ a < b
        · simp only [c2, if_true, if_false, true_and, and_true, false_and, and_false, true_or, or_true, false_or, or_false, true_iff, iff_true, false_iff, iff_false, not_true_eq_false, not_false_eq_true, true_implies, false_implies, implies_true, forall_const, decide_true, decide_false, reduceCtorEq]
          by_cases c3 : 1 ≤ k ∧ k ≤ 1000
          · simp only [c3, if_true, if_false, true_and, and_true, false_and, and_false, true_or, or_true, false_or, or_false, true_iff, iff_true, false_iff, iff_false, not_true_eq_false, not_false_eq_true, true_implies, false_implies, implies_true, forall_const, decide_true, decide_false, reduceCtorEq]
            by_cases c4 : 2 ≤ n
            · simp only [c4, if_true, if_false, true_and, and_true, false_and, and_false, true_or, or_true, false_or, or_false, true_iff, iff_true, false_iff, iff_false, not_true_eq_false, not_false_eq_true, true_implies, false_implies, implies_true, forall_const, decide_true, decide_false, reduceCtorEq]
              by_cases c5 : n ≤ 1000
              · simp only [c5, if_true, if_false, true_and, and_true, false_and, and_false, true_or, or_true, false_or, or_false, true_iff, iff_true, false_iff, iff_false, not_true_eq_false, not_false_eq_true, true_implies, false_implies, implies_true, forall_const, decide_true, decide_false, reduceCtorEq]
                by_cases c6 : SP = 0
                · simp only [c6, if_true, if_false, true_and, and_true, false_and, and_false, true_or, or_true, false_or, or_false, true_iff, iff_true, false_iff, iff_false, not_true_eq_false, not_false_eq_true, true_implies, false_implies, implies_true, forall_const, decide_true, decide_false, reduceCtorEq]; omega
                · simp only [c6, if_true, if_false, true_and, and_true, false_and, and_false, true_or, or_true, false_or, or_false, true_iff, iff_true, false_iff, iff_false, not_true_eq_false, not_false_eq_true, true_implies, false_implies, implies_true, forall_const, decide_true, decide_false, reduceCtorEq]; omega
              · simp only [c5, if_true, if_false, true_and, and_true, false_and, and_false, true_or, or_true, false_or, or_false, true_iff, iff_true, false_iff, iff_false, not_true_eq_false, not_false_eq_true, true_implies, false_implies, implies_true, forall_const, decide_true, decide_false, reduceCtorEq]; omega
            · simp only [c4, if_true, if_false, true_and, and_true, false_and, and_false, true_or, or_true, false_or, or_false, true_iff, iff_true, false_iff, iff_false, not_true_eq_false, not_false_eq_true, true_implies, false_implies, implies_true, forall_const, decide_true, decide_false, reduceCtorEq]; omega
          · simp only [c3, if_true, if_false, true_and, and_true, false_and, and_false, true_or, or_true, false_or, or_false, true_iff, iff_true, false_iff, iff_false, not_true_eq_false, not_false_eq_true, true_implies, false_implies, implies_true, forall_const, decide_true, decide_false, reduceCtorEq]; omega
        · simp only [c2, if_true, if_false, true_and, and_true, false_and, and_false, true_or, or_true, false_or, or_false, true_iff, iff_true, false_iff, iff_false, not_true_eq_false, not_false_eq_true, true_implies, false_implies, implies_true, forall_const, decide_true, decide_false, reduceCtorEq]; omega
      · simp only [abE, c1, j_n, j_s, j_h, j_l, j_mn, j_mx, forall_eq, eq_self, if_true, if_false, true_and, and_true, false_and, and_false, true_or, or_true, false_or, or_false, true_iff, iff_true, false_iff, iff_false, not_true_eq_false, not_false_eq_true, true_implies, false_implies, implies_true, forall_const, decide_true, decide_false, reduceCtorEq]
def r20pp_sp : SpecSh := { args := [(.agg [(.int .i64 (.z 0)), (.int .i64 (.z 0)), (.int .u64 (.z 0)), (.int .u64 (.z 0)), (.int .i64 (.z 0)), (.int .i64 (.z 0))]), (.int .i64 (.z 0)), (.int .i64 (.z 0)), (.int .i64 (.z 0))], res := (.agg [(.int .i64 (.z 0)), (.int .i64 (.z 0))]), sh := [.i (some ((-9223372036854775808), 9223372036854775807)), .i (some ((-9223372036854775808), 9223372036854775807))] }
set_option maxRecDepth 100000 in
def r20pp_tree : Tree :=
.lett (.subw .i64 (.v 7) (.v 6)) <|
.lett (.subw .i64 (.v 0) (.z 1)) <|
.lett (.mulw .i64 (.v 0) (.v 10)) <|
.lett (.mulw .i64 (.v 8) (.v 8)) <|
.call 52 [.b, .i (some (0, 18446744073709551615)), .i (some (0, 18446744073709551615))] [.i (.v 9), .i (.v 9)] <|
.lett (.wrap .u64 (.v 11)) <|
.call 76 [.i (some (0, 18446744073709551615)), .i (some (0, 18446744073709551615)), .b] [.i (.v 14), .i (.v 15), .i (.z 0), .i (.v 16)] <|
.lett (.wrap .u64 (.v 12)) <|
.call 76 [.i (some (0, 18446744073709551615)), .i (some (0, 18446744073709551615)), .b] [.i (.v 17), .i (.v 18), .i (.z 0), .i (.v 20)] <|
.call 27 [.i (some (0, 18446744073709551615)), .i (some (0, 18446744073709551615))] [.i (.v 0), .i (.v 1), .i (.v 2), .i (.v 3), .i (.v 4), .i (.v 5)] <|
.call 76 [.i (some (0, 18446744073709551615)), .i (some (0, 18446744073709551615)), .b] [.i (.v 24), .i (.v 25), .i (.z 0), .i (.z 36)] <|
.call 87 [.i (some (0, 18446744073709551615)), .i (some (0, 18446744073709551615)), .i (some (0, 18446744073709551615)), .i (some (0, 18446744073709551615))] [.i (.v 21), .i (.v 22), .i (.v 26), .i (.v 27)] <|
.ite (.not (.and (.cmp .eq (.v 31) (.z 0)) (.cmp .eq (.v 32) (.z 0)))) (.call 55 [.i (some (0, 18446744073709551615)), .i (some (0, 18446744073709551615)), .b] [.i (.v 29), .i (.v 30), .i (.z 0), .i (.z 1)] <|
.call 88 [.i (some (0, 18446744073709551615))] [.i (.v 29), .i (.v 30)] <|
.lett (.wrap .i64 (.v 36)) <|
.call 89 [.i (some (0, 18446744073709551615)), .i (some (0, 18446744073709551615))] [.i (.v 33), .i (.v 34)] <|
.lett (.wrap .i64 (.v 39)) <|
.ret (.agg [(.int .i64 (.v 37)), (.int .i64 (.v 40))])) <|
.call 88 [.i (some (0, 18446744073709551615))] [.i (.v 29), .i (.v 30)] <|
.lett (.wrap .i64 (.v 33)) <|
.call 89 [.i (some (0, 18446744073709551615)), .i (some (0, 18446744073709551615))] [.i (.v 29), .i (.v 30)] <|
.lett (.wrap .i64 (.v 36)) <|
.ret (.agg [(.int .i64 (.v 34)), (.int .i64 (.v 37))])
noncomputable def r20pp_cx : Ctx := { tys := tys, fns := fns, sps := [(55, radd_sp), (76, rtimes_sp), (87, rdiv_sp), (88, rroot_sp), (89, rup_sp), (52, r4prod_sp), (27, r11sp_sp)], anns := [], trys := [] }
def r20pp_ivs : List (Option (Int × Int)) := [some ((-9223372036854775808), 9223372036854775807), some ((-9223372036854775808), 9223372036854775807), some (0, 18446744073709551615), some (0, 18446744073709551615), some ((-9223372036854775808), 9223372036854775807), some ((-9223372036854775808), 9223372036854775807), some ((-9223372036854775808), 9223372036854775807), some ((-9223372036854775808), 9223372036854775807), some ((-9223372036854775808), 9223372036854775807)]
set_option maxRecDepth 100000 in
theorem r20pp_walk : runFn r20pp_cx 3000 33 Try.f33 r20pp_sp.args r20pp_ivs = r20pp_tree := by kernel_rfl
noncomputable def r20pp_M : Nat → SpecSem
  | 55 => radd_sem
  | 76 => rtimes_sem
  | 87 => rdiv_sem
  | 88 => rroot_sem
  | 89 => rup_sem
  | 52 => r4prod_sem
  | 27 => r11sp_sem
  | _ => noSem
theorem r20pp_M55 : r20pp_M 55 = radd_sem := rfl
theorem r20pp_M76 : r20pp_M 76 = rtimes_sem := rfl
theorem r20pp_M87 : r20pp_M 87 = rdiv_sem := rfl
theorem r20pp_M88 : r20pp_M 88 = rroot_sem := rfl
theorem r20pp_M89 : r20pp_M 89 = rup_sem := rfl
theorem r20pp_M52 : r20pp_M 52 = r4prod_sem := rfl
theorem r20pp_M27 : r20pp_M 27 = r11sp_sem := rfl
theorem r20pp_cxok : CxOK Try.prog r20pp_cx r20pp_M := ⟨tysOK, fnsOK, spCons radd_ok <| spCons rtimes_ok <| spCons rdiv_ok <| spCons rroot_ok <| spCons rup_ok <| spCons r4prod_ok <| spCons r11sp_ok <| fun _ _ h => spNil h, mixedOK, fun _ _ h => trNil h⟩
set_option maxRecDepth 100000 in
set_option maxHeartbeats 8000000 in
theorem r20pp_den (R RP : Value → Prop) (F : Ex → St → Js → Env → Prop) (J : Js) (x0 : Int) (x1 : Int) (x2 : Int) (x3 : Int) (x4 : Int) (x5 : Int) (x6 : Int) (x7 : Int) (x8 : Int) : Tree.den r20pp_M R RP F r20pp_tree J [(.i x0), (.i x1), (.i x2), (.i x3), (.i x4), (.i x5), (.i x6), (.i x7), (.i x8)] = (
  ∀ x9 : Int, x9 = (IntKind.i64.wrap (x7 - x6)) →
∀ x10 : Int, x10 = (IntKind.i64.wrap (x0 - (1 : Int))) →
∀ x11 : Int, x11 = (IntKind.i64.wrap (x0 * x10)) →
∀ x12 : Int, x12 = (IntKind.i64.wrap (x8 * x8)) →
(r4prod_sem.pre [(.i x9), (.i x9)]) ∧ (
∀ x14 : Int, x14 = (Cv.int (Env.get (r4prod_sem.out [(.i x9), (.i x9)]) 1)) → (0 : Int) ≤ x14 → x14 ≤ (18446744073709551615 : Int) →
∀ x15 : Int, x15 = (Cv.int (Env.get (r4prod_sem.out [(.i x9), (.i x9)]) 2)) → (0 : Int) ≤ x15 → x15 ≤ (18446744073709551615 : Int) →
∀ x16 : Int, x16 = (IntKind.u64.wrap x11) →
(rtimes_sem.pre [(.i x14), (.i x15), (.i (0 : Int)), (.i x16)]) ∧ (
∀ x17 : Int, x17 = (Cv.int (Env.get (rtimes_sem.out [(.i x14), (.i x15), (.i (0 : Int)), (.i x16)]) 0)) → (0 : Int) ≤ x17 → x17 ≤ (18446744073709551615 : Int) →
∀ x18 : Int, x18 = (Cv.int (Env.get (rtimes_sem.out [(.i x14), (.i x15), (.i (0 : Int)), (.i x16)]) 1)) → (0 : Int) ≤ x18 → x18 ≤ (18446744073709551615 : Int) →
∀ x20 : Int, x20 = (IntKind.u64.wrap x12) →
(rtimes_sem.pre [(.i x17), (.i x18), (.i (0 : Int)), (.i x20)]) ∧ (
∀ x21 : Int, x21 = (Cv.int (Env.get (rtimes_sem.out [(.i x17), (.i x18), (.i (0 : Int)), (.i x20)]) 0)) → (0 : Int) ≤ x21 → x21 ≤ (18446744073709551615 : Int) →
∀ x22 : Int, x22 = (Cv.int (Env.get (rtimes_sem.out [(.i x17), (.i x18), (.i (0 : Int)), (.i x20)]) 1)) → (0 : Int) ≤ x22 → x22 ≤ (18446744073709551615 : Int) →
(r11sp_sem.pre [(.i x0), (.i x1), (.i x2), (.i x3), (.i x4), (.i x5)]) ∧ (
∀ x24 : Int, x24 = (Cv.int (Env.get (r11sp_sem.out [(.i x0), (.i x1), (.i x2), (.i x3), (.i x4), (.i x5)]) 0)) → (0 : Int) ≤ x24 → x24 ≤ (18446744073709551615 : Int) →
∀ x25 : Int, x25 = (Cv.int (Env.get (r11sp_sem.out [(.i x0), (.i x1), (.i x2), (.i x3), (.i x4), (.i x5)]) 1)) → (0 : Int) ≤ x25 → x25 ≤ (18446744073709551615 : Int) →
(rtimes_sem.pre [(.i x24), (.i x25), (.i (0 : Int)), (.i (36 : Int))]) ∧ (
∀ x26 : Int, x26 = (Cv.int (Env.get (rtimes_sem.out [(.i x24), (.i x25), (.i (0 : Int)), (.i (36 : Int))]) 0)) → (0 : Int) ≤ x26 → x26 ≤ (18446744073709551615 : Int) →
∀ x27 : Int, x27 = (Cv.int (Env.get (rtimes_sem.out [(.i x24), (.i x25), (.i (0 : Int)), (.i (36 : Int))]) 1)) → (0 : Int) ≤ x27 → x27 ≤ (18446744073709551615 : Int) →
(rdiv_sem.pre [(.i x21), (.i x22), (.i x26), (.i x27)]) ∧ (
∀ x29 : Int, x29 = (Cv.int (Env.get (rdiv_sem.out [(.i x21), (.i x22), (.i x26), (.i x27)]) 0)) → (0 : Int) ≤ x29 → x29 ≤ (18446744073709551615 : Int) →
∀ x30 : Int, x30 = (Cv.int (Env.get (rdiv_sem.out [(.i x21), (.i x22), (.i x26), (.i x27)]) 1)) → (0 : Int) ≤ x30 → x30 ≤ (18446744073709551615 : Int) →
∀ x31 : Int, x31 = (Cv.int (Env.get (rdiv_sem.out [(.i x21), (.i x22), (.i x26), (.i x27)]) 2)) → (0 : Int) ≤ x31 → x31 ≤ (18446744073709551615 : Int) →
∀ x32 : Int, x32 = (Cv.int (Env.get (rdiv_sem.out [(.i x21), (.i x22), (.i x26), (.i x27)]) 3)) → (0 : Int) ≤ x32 → x32 ≤ (18446744073709551615 : Int) →
((!((Cmp.den .eq x31 (0 : Int)) && (Cmp.den .eq x32 (0 : Int)))) = true → (radd_sem.pre [(.i x29), (.i x30), (.i (0 : Int)), (.i (1 : Int))]) ∧ (
∀ x33 : Int, x33 = (Cv.int (Env.get (radd_sem.out [(.i x29), (.i x30), (.i (0 : Int)), (.i (1 : Int))]) 0)) → (0 : Int) ≤ x33 → x33 ≤ (18446744073709551615 : Int) →
∀ x34 : Int, x34 = (Cv.int (Env.get (radd_sem.out [(.i x29), (.i x30), (.i (0 : Int)), (.i (1 : Int))]) 1)) → (0 : Int) ≤ x34 → x34 ≤ (18446744073709551615 : Int) →
(rroot_sem.pre [(.i x29), (.i x30)]) ∧ (
∀ x36 : Int, x36 = (Cv.int (Env.get (rroot_sem.out [(.i x29), (.i x30)]) 0)) → (0 : Int) ≤ x36 → x36 ≤ (18446744073709551615 : Int) →
∀ x37 : Int, x37 = (IntKind.i64.wrap x36) →
(rup_sem.pre [(.i x33), (.i x34)]) ∧ (
∀ x38 : Int, x38 = (Cv.int (Env.get (rup_sem.out [(.i x33), (.i x34)]) 0)) → (0 : Int) ≤ x38 → x38 ≤ (18446744073709551615 : Int) →
∀ x39 : Int, x39 = (Cv.int (Env.get (rup_sem.out [(.i x33), (.i x34)]) 1)) → (0 : Int) ≤ x39 → x39 ≤ (18446744073709551615 : Int) →
∀ x40 : Int, x40 = (IntKind.i64.wrap x39) →
R (Value.agg [(Value.int .i64 x37), (Value.int .i64 x40)].toArray))))) ∧ ((!((Cmp.den .eq x31 (0 : Int)) && (Cmp.den .eq x32 (0 : Int)))) = false → (rroot_sem.pre [(.i x29), (.i x30)]) ∧ (
∀ x33 : Int, x33 = (Cv.int (Env.get (rroot_sem.out [(.i x29), (.i x30)]) 0)) → (0 : Int) ≤ x33 → x33 ≤ (18446744073709551615 : Int) →
∀ x34 : Int, x34 = (IntKind.i64.wrap x33) →
(rup_sem.pre [(.i x29), (.i x30)]) ∧ (
∀ x35 : Int, x35 = (Cv.int (Env.get (rup_sem.out [(.i x29), (.i x30)]) 0)) → (0 : Int) ≤ x35 → x35 ≤ (18446744073709551615 : Int) →
∀ x36 : Int, x36 = (Cv.int (Env.get (rup_sem.out [(.i x29), (.i x30)]) 1)) → (0 : Int) ≤ x36 → x36 ≤ (18446744073709551615 : Int) →
∀ x37 : Int, x37 = (IntKind.i64.wrap x36) →
R (Value.agg [(Value.int .i64 x34), (Value.int .i64 x37)].toArray))))))))))) := by kernel_rfl

def r20pp_sem : SpecSem := { pre := fun cs => match cs with | [.i n, .i s, .i h, .i l, .i mn, .i mx, .i a, .i b, .i k] => IsI n ∧ IsI s ∧ IsU h ∧ IsU l ∧ IsI mn ∧ IsI mx ∧ IsI a ∧ IsI b ∧ IsI k ∧ (abOK n s h l mn mx a b k) | _ => False, out := fun cs => match cs with | [.i n, .i s, .i h, .i l, .i mn, .i mx, .i a, .i b, .i k] => [.i (rtLo (ppA n a b k) ((n * val h l - s * s) * 36)), .i (rtHi (ppA n a b k) ((n * val h l - s * s) * 36))] | _ => [] }
set_option maxRecDepth 10000 in
set_option maxHeartbeats 16000000 in
theorem r20pp_ok : SpecOK Try.prog 33 r20pp_sp r20pp_sem := by
  refine spec_of_tree r20pp_cxok Try.func33 (by kernel_rfl) (by kernel_rfl) r20pp_walk rfl ?_
  intro cs hpre
  match cs, hpre with
  | [.i n, .i s, .i h, .i l, .i mn, .i mx, .i a, .i b, .i k], ⟨j_n, j_s, j_h, j_l, j_mn, j_mx, j_a, j_b, j_k, hx⟩ =>
    have h_n := j_n
    unfold IsI at h_n
    have h_s := j_s
    unfold IsI at h_s
    have h_h := j_h
    unfold IsU at h_h
    have h_l := j_l
    unfold IsU at h_l
    have h_mn := j_mn
    unfold IsI at h_mn
    have h_mx := j_mx
    unfold IsI at h_mx
    have h_a := j_a
    unfold IsI at h_a
    have h_b := j_b
    unfold IsI at h_b
    have h_k := j_k
    unfold IsI at h_k
    refine ⟨rfl, IvsB.ok (by simp only [r20pp_ivs, IvsB, Cv.int, and_true] <;> omega), ?_, ?_⟩
    · obtain ⟨hA, hD⟩ := ab_num j_h j_l hx
      have := rt_rng (A := ppA n a b k) (D := (n * val h l - s * s) * 36) ⟨hA.1, by omega⟩ (by omega)
      simp only [r20pp_sem, r20pp_sp, Fits, and_true]
      omega
    · rw [r20pp_den]
      simp only [r20pp_sem, r20pp_sp, wup_sem, r20pp_den, radd_sem, rtimes_sem, rdiv_sem, rroot_sem, rup_sem, r4prod_sem, r11sp_sem, Tree.den, LE.den, Cv.list, placeA, List.getElem?_cons_zero, List.getElem?_cons_succ, IE.den, BE.den, At.den, CA.den, Env.get, Cv.int, Cv.bool, List.cons_append, List.nil_append, List.map_cons, List.map_nil, bindRes, bindEq, Fits, SV.den, denL, place, placeL, eq_t, eq_f, lt_t, lt_f, le_t, le_f, beq_iff_eq, beq_eq_false_iff_ne, ne_eq, reduceCtorEq, b_dec, decide_eq_true_eq, decide_eq_false_iff_not, Bool.not_eq_false', Bool.or_eq_true, Bool.or_eq_false_iff, Bool.and_eq_false_iff, true_iff, false_iff, Bool.false_eq_true, Bool.not_eq_true', Bool.and_eq_true, Bool.not_true, Bool.not_false, List.cons.injEq, Cv.i.injEq, Cv.b.injEq, and_true, true_and, agg_inj, tup_inj, Value.int.injEq, Value.bool.injEq]
      obtain ⟨c1, c2, c3, c4, c5⟩ := hx
      obtain ⟨r1, r2, r3, r4, r5, r6⟩ := st_rng j_h j_l c1
      obtain ⟨p1, p2, p3, p4, p5⟩ := ppA_rng (n := n) c2 c3 c4
      have sp0 := ab_sp j_h j_l c1 c4.2
      have u0 : IsU 0 := ⟨by omega, by omega⟩
      have u1 : IsU 1 := ⟨by omega, by omega⟩
      have ub : ∀ x : Int, IsU (x % 18446744073709551616) := fun x => ⟨by omega, by omega⟩
      have u7 : IsU ((n * val h l - s * s) / 18446744073709551616) := ⟨by omega, by omega⟩
      have e6 := vq (n * val h l - s * s)
      have nn1 := nn_mul (x := n) (y := n - 1) (X := 1000) (Y := 1000) (by omega) (by omega)
      have kk1 := nn_mul (x := k) (y := k) (X := 1000) (Y := 1000) (by omega) (by omega)
      have w2 : IntKind.i64.wrap (n - 1) = n - 1 := w64 (by omega) (by omega)
      have w4 : IntKind.i64.wrap (k * k) = k * k := w64 (by omega) (by omega)
      have w6 : IntKind.u64.wrap (k * k) = k * k := wu64 (by omega) (by omega)
      have u4 : IsU (k * k) := ⟨by omega, by omega⟩
      have w1 : IntKind.i64.wrap (b - a) = b - a := w64 (by omega) (by omega)
      have i1 : IsI (b - a) := ⟨by omega, by omega⟩
      have w3 : IntKind.i64.wrap (n * (n - 1)) = n * (n - 1) := w64 (by omega) (by omega)
      have w5 : IntKind.u64.wrap (n * (n - 1)) = n * (n - 1) := wu64 (by omega) (by omega)
      have u3 : IsU (n * (n - 1)) := ⟨by omega, by omega⟩
      have u2 : IsU 36 := ⟨by omega, by omega⟩
      have hA1 : (b - a) * (b - a) * (n * (n - 1)) = (b - a) * (b - a) * n * (n - 1) := by ac_rfl
      have eA : (b - a) * (b - a) * n * (n - 1) * (k * k) = ppA n a b k := by unfold ppA; ac_rfl
      have u5 : IsU ((b - a) * (b - a) / 18446744073709551616) := ⟨by omega, by omega⟩
      have e1 := vq ((b - a) * (b - a))
      have e2 := vq2 p3.1 (by omega)
      obtain ⟨⟨t1, t2⟩, t3, ⟨t4, t5⟩, t6, t7, t8, t9, t10⟩ := rooted (A := ppA n a b k) (D := (n * val h l - s * s) * 36) ⟨p5.1, by omega⟩ (by omega)
      have hD : 1 ≤ (n * val h l - s * s) * 36 := by omega
      by_cases hr : ppA n a b k % ((n * val h l - s * s) * 36) = 0
      · have t7 := t7 hr
        have z3 : (0 : Int) / 18446744073709551616 = 0 := by decide
        have z4 : (0 : Int) % 18446744073709551616 = 0 := by decide
        simp only [hr, hD, c1, w1, w2, w3, w4, w5, w6, i1, u0, u1, u2, u3, u4, u5, u7, ub, abs_sq, val0, e1, e2, e6, hA1, eA, t1, t2, t3, t4, t5, t6, t7, t9, t10, z3, z4, j_n, j_s, j_h, j_l, j_mn, j_mx, forall_eq, eq_self, f00, if_true, if_false, true_and, and_true, false_and, and_false, true_or, or_true, false_or, or_false, true_iff, iff_true, false_iff, iff_false, not_true_eq_false, not_false_eq_true, true_implies, false_implies, implies_true, forall_const, decide_true, decide_false, reduceCtorEq]
      · have t8 := t8 hr
        have z1 : (¬ ppA n a b k % ((n * val h l - s * s) * 36) / 18446744073709551616 = 0 ∨ ¬ ppA n a b k % ((n * val h l - s * s) * 36) % 18446744073709551616 = 0) = True := eq_true (by omega)
        have z2 : (ppA n a b k % ((n * val h l - s * s) * 36) / 18446744073709551616 = 0 ∧ ppA n a b k % ((n * val h l - s * s) * 36) % 18446744073709551616 = 0) = False := eq_false (by omega)
        simp only [hD, z1, z2, c1, w1, w2, w3, w4, w5, w6, i1, u0, u1, u2, u3, u4, u5, u7, ub, abs_sq, val0, e1, e2, e6, hA1, eA, t1, t2, t3, t4, t5, t6, t8, t9, t10, j_n, j_s, j_h, j_l, j_mn, j_mx, forall_eq, eq_self, f00, if_true, if_false, true_and, and_true, false_and, and_false, true_or, or_true, false_or, or_false, true_iff, iff_true, false_iff, iff_false, not_true_eq_false, not_false_eq_true, true_implies, false_implies, implies_true, forall_const, decide_true, decide_false, reduceCtorEq]
def r20pk_sp : SpecSh := { args := [(.agg [(.int .i64 (.z 0)), (.int .i64 (.z 0)), (.int .u64 (.z 0)), (.int .u64 (.z 0)), (.int .i64 (.z 0)), (.int .i64 (.z 0))]), (.int .i64 (.z 0)), (.int .i64 (.z 0)), (.int .i64 (.z 0))], res := (.agg [(.int .i64 (.z 0)), (.int .i64 (.z 0))]), sh := [.i (some ((-9223372036854775808), 9223372036854775807)), .i (some ((-9223372036854775808), 9223372036854775807))] }
set_option maxRecDepth 100000 in
def r20pk_tree : Tree :=
.lett (.mulw .i64 (.v 7) (.v 0)) <|
.lett (.subw .i64 (.v 9) (.v 1)) <|
.lett (.mulw .i64 (.v 6) (.v 0)) <|
.lett (.subw .i64 (.v 1) (.v 11)) <|
.lett (.ite (.cmp .lt (.v 12) (.v 10)) (.v 12) (.v 10)) <|
.lett (.subw .i64 (.v 0) (.z 1)) <|
.lett (.mulw .i64 (.v 8) (.v 8)) <|
.call 52 [.b, .i (some (0, 18446744073709551615)), .i (some (0, 18446744073709551615))] [.i (.v 13), .i (.v 13)] <|
.lett (.wrap .u64 (.v 14)) <|
.call 76 [.i (some (0, 18446744073709551615)), .i (some (0, 18446744073709551615)), .b] [.i (.v 17), .i (.v 18), .i (.z 0), .i (.v 19)] <|
.lett (.wrap .u64 (.v 15)) <|
.call 76 [.i (some (0, 18446744073709551615)), .i (some (0, 18446744073709551615)), .b] [.i (.v 20), .i (.v 21), .i (.z 0), .i (.v 23)] <|
.lett (.mulw .i64 (.z 9) (.v 0)) <|
.call 27 [.i (some (0, 18446744073709551615)), .i (some (0, 18446744073709551615))] [.i (.v 0), .i (.v 1), .i (.v 2), .i (.v 3), .i (.v 4), .i (.v 5)] <|
.lett (.wrap .u64 (.v 27)) <|
.call 76 [.i (some (0, 18446744073709551615)), .i (some (0, 18446744073709551615)), .b] [.i (.v 28), .i (.v 29), .i (.z 0), .i (.v 30)] <|
.call 87 [.i (some (0, 18446744073709551615)), .i (some (0, 18446744073709551615)), .i (some (0, 18446744073709551615)), .i (some (0, 18446744073709551615))] [.i (.v 24), .i (.v 25), .i (.v 31), .i (.v 32)] <|
.ite (.not (.and (.cmp .eq (.v 36) (.z 0)) (.cmp .eq (.v 37) (.z 0)))) (.call 55 [.i (some (0, 18446744073709551615)), .i (some (0, 18446744073709551615)), .b] [.i (.v 34), .i (.v 35), .i (.z 0), .i (.z 1)] <|
.call 88 [.i (some (0, 18446744073709551615))] [.i (.v 34), .i (.v 35)] <|
.lett (.wrap .i64 (.v 41)) <|
.call 89 [.i (some (0, 18446744073709551615)), .i (some (0, 18446744073709551615))] [.i (.v 38), .i (.v 39)] <|
.lett (.wrap .i64 (.v 44)) <|
.ite (.cmp .lt (.v 13) (.z 0)) (.lett (.subw .i64 (.z 0) (.v 45)) <|
.lett (.subw .i64 (.z 0) (.v 42)) <|
.ret (.agg [(.int .i64 (.v 46)), (.int .i64 (.v 47))])) <|
.ret (.agg [(.int .i64 (.v 42)), (.int .i64 (.v 45))])) <|
.call 88 [.i (some (0, 18446744073709551615))] [.i (.v 34), .i (.v 35)] <|
.lett (.wrap .i64 (.v 38)) <|
.call 89 [.i (some (0, 18446744073709551615)), .i (some (0, 18446744073709551615))] [.i (.v 34), .i (.v 35)] <|
.lett (.wrap .i64 (.v 41)) <|
.ite (.cmp .lt (.v 13) (.z 0)) (.lett (.subw .i64 (.z 0) (.v 42)) <|
.lett (.subw .i64 (.z 0) (.v 39)) <|
.ret (.agg [(.int .i64 (.v 43)), (.int .i64 (.v 44))])) <|
.ret (.agg [(.int .i64 (.v 39)), (.int .i64 (.v 42))])
noncomputable def r20pk_cx : Ctx := { tys := tys, fns := fns, sps := [(55, radd_sp), (76, rtimes_sp), (87, rdiv_sp), (88, rroot_sp), (89, rup_sp), (52, r4prod_sp), (27, r11sp_sp)], anns := [], trys := [] }
def r20pk_ivs : List (Option (Int × Int)) := [some ((-9223372036854775808), 9223372036854775807), some ((-9223372036854775808), 9223372036854775807), some (0, 18446744073709551615), some (0, 18446744073709551615), some ((-9223372036854775808), 9223372036854775807), some ((-9223372036854775808), 9223372036854775807), some ((-9223372036854775808), 9223372036854775807), some ((-9223372036854775808), 9223372036854775807), some ((-9223372036854775808), 9223372036854775807)]
set_option maxRecDepth 100000 in
theorem r20pk_walk : runFn r20pk_cx 3000 34 Try.f34 r20pk_sp.args r20pk_ivs = r20pk_tree := by kernel_rfl
noncomputable def r20pk_M : Nat → SpecSem
  | 55 => radd_sem
  | 76 => rtimes_sem
  | 87 => rdiv_sem
  | 88 => rroot_sem
  | 89 => rup_sem
  | 52 => r4prod_sem
  | 27 => r11sp_sem
  | _ => noSem
theorem r20pk_M55 : r20pk_M 55 = radd_sem := rfl
theorem r20pk_M76 : r20pk_M 76 = rtimes_sem := rfl
theorem r20pk_M87 : r20pk_M 87 = rdiv_sem := rfl
theorem r20pk_M88 : r20pk_M 88 = rroot_sem := rfl
theorem r20pk_M89 : r20pk_M 89 = rup_sem := rfl
theorem r20pk_M52 : r20pk_M 52 = r4prod_sem := rfl
theorem r20pk_M27 : r20pk_M 27 = r11sp_sem := rfl
theorem r20pk_cxok : CxOK Try.prog r20pk_cx r20pk_M := ⟨tysOK, fnsOK, spCons radd_ok <| spCons rtimes_ok <| spCons rdiv_ok <| spCons rroot_ok <| spCons rup_ok <| spCons r4prod_ok <| spCons r11sp_ok <| fun _ _ h => spNil h, mixedOK, fun _ _ h => trNil h⟩
set_option maxRecDepth 100000 in
set_option maxHeartbeats 8000000 in
theorem r20pk_den (R RP : Value → Prop) (F : Ex → St → Js → Env → Prop) (J : Js) (x0 : Int) (x1 : Int) (x2 : Int) (x3 : Int) (x4 : Int) (x5 : Int) (x6 : Int) (x7 : Int) (x8 : Int) : Tree.den r20pk_M R RP F r20pk_tree J [(.i x0), (.i x1), (.i x2), (.i x3), (.i x4), (.i x5), (.i x6), (.i x7), (.i x8)] = (
  ∀ x9 : Int, x9 = (IntKind.i64.wrap (x7 * x0)) →
∀ x10 : Int, x10 = (IntKind.i64.wrap (x9 - x1)) →
∀ x11 : Int, x11 = (IntKind.i64.wrap (x6 * x0)) →
∀ x12 : Int, x12 = (IntKind.i64.wrap (x1 - x11)) →
∀ x13 : Int, x13 = (if (Cmp.den .lt x12 x10) = true then x12 else x10) →
∀ x14 : Int, x14 = (IntKind.i64.wrap (x0 - (1 : Int))) →
∀ x15 : Int, x15 = (IntKind.i64.wrap (x8 * x8)) →
(r4prod_sem.pre [(.i x13), (.i x13)]) ∧ (
∀ x17 : Int, x17 = (Cv.int (Env.get (r4prod_sem.out [(.i x13), (.i x13)]) 1)) → (0 : Int) ≤ x17 → x17 ≤ (18446744073709551615 : Int) →
∀ x18 : Int, x18 = (Cv.int (Env.get (r4prod_sem.out [(.i x13), (.i x13)]) 2)) → (0 : Int) ≤ x18 → x18 ≤ (18446744073709551615 : Int) →
∀ x19 : Int, x19 = (IntKind.u64.wrap x14) →
(rtimes_sem.pre [(.i x17), (.i x18), (.i (0 : Int)), (.i x19)]) ∧ (
∀ x20 : Int, x20 = (Cv.int (Env.get (rtimes_sem.out [(.i x17), (.i x18), (.i (0 : Int)), (.i x19)]) 0)) → (0 : Int) ≤ x20 → x20 ≤ (18446744073709551615 : Int) →
∀ x21 : Int, x21 = (Cv.int (Env.get (rtimes_sem.out [(.i x17), (.i x18), (.i (0 : Int)), (.i x19)]) 1)) → (0 : Int) ≤ x21 → x21 ≤ (18446744073709551615 : Int) →
∀ x23 : Int, x23 = (IntKind.u64.wrap x15) →
(rtimes_sem.pre [(.i x20), (.i x21), (.i (0 : Int)), (.i x23)]) ∧ (
∀ x24 : Int, x24 = (Cv.int (Env.get (rtimes_sem.out [(.i x20), (.i x21), (.i (0 : Int)), (.i x23)]) 0)) → (0 : Int) ≤ x24 → x24 ≤ (18446744073709551615 : Int) →
∀ x25 : Int, x25 = (Cv.int (Env.get (rtimes_sem.out [(.i x20), (.i x21), (.i (0 : Int)), (.i x23)]) 1)) → (0 : Int) ≤ x25 → x25 ≤ (18446744073709551615 : Int) →
∀ x27 : Int, x27 = (IntKind.i64.wrap ((9 : Int) * x0)) →
(r11sp_sem.pre [(.i x0), (.i x1), (.i x2), (.i x3), (.i x4), (.i x5)]) ∧ (
∀ x28 : Int, x28 = (Cv.int (Env.get (r11sp_sem.out [(.i x0), (.i x1), (.i x2), (.i x3), (.i x4), (.i x5)]) 0)) → (0 : Int) ≤ x28 → x28 ≤ (18446744073709551615 : Int) →
∀ x29 : Int, x29 = (Cv.int (Env.get (r11sp_sem.out [(.i x0), (.i x1), (.i x2), (.i x3), (.i x4), (.i x5)]) 1)) → (0 : Int) ≤ x29 → x29 ≤ (18446744073709551615 : Int) →
∀ x30 : Int, x30 = (IntKind.u64.wrap x27) →
(rtimes_sem.pre [(.i x28), (.i x29), (.i (0 : Int)), (.i x30)]) ∧ (
∀ x31 : Int, x31 = (Cv.int (Env.get (rtimes_sem.out [(.i x28), (.i x29), (.i (0 : Int)), (.i x30)]) 0)) → (0 : Int) ≤ x31 → x31 ≤ (18446744073709551615 : Int) →
∀ x32 : Int, x32 = (Cv.int (Env.get (rtimes_sem.out [(.i x28), (.i x29), (.i (0 : Int)), (.i x30)]) 1)) → (0 : Int) ≤ x32 → x32 ≤ (18446744073709551615 : Int) →
(rdiv_sem.pre [(.i x24), (.i x25), (.i x31), (.i x32)]) ∧ (
∀ x34 : Int, x34 = (Cv.int (Env.get (rdiv_sem.out [(.i x24), (.i x25), (.i x31), (.i x32)]) 0)) → (0 : Int) ≤ x34 → x34 ≤ (18446744073709551615 : Int) →
∀ x35 : Int, x35 = (Cv.int (Env.get (rdiv_sem.out [(.i x24), (.i x25), (.i x31), (.i x32)]) 1)) → (0 : Int) ≤ x35 → x35 ≤ (18446744073709551615 : Int) →
∀ x36 : Int, x36 = (Cv.int (Env.get (rdiv_sem.out [(.i x24), (.i x25), (.i x31), (.i x32)]) 2)) → (0 : Int) ≤ x36 → x36 ≤ (18446744073709551615 : Int) →
∀ x37 : Int, x37 = (Cv.int (Env.get (rdiv_sem.out [(.i x24), (.i x25), (.i x31), (.i x32)]) 3)) → (0 : Int) ≤ x37 → x37 ≤ (18446744073709551615 : Int) →
((!((Cmp.den .eq x36 (0 : Int)) && (Cmp.den .eq x37 (0 : Int)))) = true → (radd_sem.pre [(.i x34), (.i x35), (.i (0 : Int)), (.i (1 : Int))]) ∧ (
∀ x38 : Int, x38 = (Cv.int (Env.get (radd_sem.out [(.i x34), (.i x35), (.i (0 : Int)), (.i (1 : Int))]) 0)) → (0 : Int) ≤ x38 → x38 ≤ (18446744073709551615 : Int) →
∀ x39 : Int, x39 = (Cv.int (Env.get (radd_sem.out [(.i x34), (.i x35), (.i (0 : Int)), (.i (1 : Int))]) 1)) → (0 : Int) ≤ x39 → x39 ≤ (18446744073709551615 : Int) →
(rroot_sem.pre [(.i x34), (.i x35)]) ∧ (
∀ x41 : Int, x41 = (Cv.int (Env.get (rroot_sem.out [(.i x34), (.i x35)]) 0)) → (0 : Int) ≤ x41 → x41 ≤ (18446744073709551615 : Int) →
∀ x42 : Int, x42 = (IntKind.i64.wrap x41) →
(rup_sem.pre [(.i x38), (.i x39)]) ∧ (
∀ x43 : Int, x43 = (Cv.int (Env.get (rup_sem.out [(.i x38), (.i x39)]) 0)) → (0 : Int) ≤ x43 → x43 ≤ (18446744073709551615 : Int) →
∀ x44 : Int, x44 = (Cv.int (Env.get (rup_sem.out [(.i x38), (.i x39)]) 1)) → (0 : Int) ≤ x44 → x44 ≤ (18446744073709551615 : Int) →
∀ x45 : Int, x45 = (IntKind.i64.wrap x44) →
((Cmp.den .lt x13 (0 : Int)) = true → ∀ x46 : Int, x46 = (IntKind.i64.wrap ((0 : Int) - x45)) →
∀ x47 : Int, x47 = (IntKind.i64.wrap ((0 : Int) - x42)) →
R (Value.agg [(Value.int .i64 x46), (Value.int .i64 x47)].toArray)) ∧ ((Cmp.den .lt x13 (0 : Int)) = false → R (Value.agg [(Value.int .i64 x42), (Value.int .i64 x45)].toArray)))))) ∧ ((!((Cmp.den .eq x36 (0 : Int)) && (Cmp.den .eq x37 (0 : Int)))) = false → (rroot_sem.pre [(.i x34), (.i x35)]) ∧ (
∀ x38 : Int, x38 = (Cv.int (Env.get (rroot_sem.out [(.i x34), (.i x35)]) 0)) → (0 : Int) ≤ x38 → x38 ≤ (18446744073709551615 : Int) →
∀ x39 : Int, x39 = (IntKind.i64.wrap x38) →
(rup_sem.pre [(.i x34), (.i x35)]) ∧ (
∀ x40 : Int, x40 = (Cv.int (Env.get (rup_sem.out [(.i x34), (.i x35)]) 0)) → (0 : Int) ≤ x40 → x40 ≤ (18446744073709551615 : Int) →
∀ x41 : Int, x41 = (Cv.int (Env.get (rup_sem.out [(.i x34), (.i x35)]) 1)) → (0 : Int) ≤ x41 → x41 ≤ (18446744073709551615 : Int) →
∀ x42 : Int, x42 = (IntKind.i64.wrap x41) →
((Cmp.den .lt x13 (0 : Int)) = true → ∀ x43 : Int, x43 = (IntKind.i64.wrap ((0 : Int) - x42)) →
∀ x44 : Int, x44 = (IntKind.i64.wrap ((0 : Int) - x39)) →
R (Value.agg [(Value.int .i64 x43), (Value.int .i64 x44)].toArray)) ∧ ((Cmp.den .lt x13 (0 : Int)) = false → R (Value.agg [(Value.int .i64 x39), (Value.int .i64 x42)].toArray)))))))))))) := by kernel_rfl

def r20pk_sem : SpecSem := { pre := fun cs => match cs with | [.i n, .i s, .i h, .i l, .i mn, .i mx, .i a, .i b, .i k] => IsI n ∧ IsI s ∧ IsU h ∧ IsU l ∧ IsI mn ∧ IsI mx ∧ IsI a ∧ IsI b ∧ IsI k ∧ (abOK n s h l mn mx a b k) | _ => False, out := fun cs => match cs with | [.i n, .i s, .i h, .i l, .i mn, .i mx, .i a, .i b, .i k] => [.i (pkLo n s a b k (n * val h l - s * s)), .i (pkHi n s a b k (n * val h l - s * s))] | _ => [] }
set_option maxRecDepth 10000 in
set_option maxHeartbeats 16000000 in
theorem r20pk_ok : SpecOK Try.prog 34 r20pk_sp r20pk_sem := by
  refine spec_of_tree r20pk_cxok Try.func34 (by kernel_rfl) (by kernel_rfl) r20pk_walk rfl ?_
  intro cs hpre
  match cs, hpre with
  | [.i n, .i s, .i h, .i l, .i mn, .i mx, .i a, .i b, .i k], ⟨j_n, j_s, j_h, j_l, j_mn, j_mx, j_a, j_b, j_k, hx⟩ =>
    have h_n := j_n
    unfold IsI at h_n
    have h_s := j_s
    unfold IsI at h_s
    have h_h := j_h
    unfold IsU at h_h
    have h_l := j_l
    unfold IsU at h_l
    have h_mn := j_mn
    unfold IsI at h_mn
    have h_mx := j_mx
    unfold IsI at h_mx
    have h_a := j_a
    unfold IsI at h_a
    have h_b := j_b
    unfold IsI at h_b
    have h_k := j_k
    unfold IsI at h_k
    refine ⟨rfl, IvsB.ok (by simp only [r20pk_ivs, IvsB, Cv.int, and_true] <;> omega), ?_, ?_⟩
    · obtain ⟨hA, hD⟩ := ab_num j_h j_l hx
      obtain ⟨_, _, _, _, p5⟩ := pkA_rng hx.2.1 hx.2.2.1 hx.2.2.2.1 (st_s hx.1 hx.2.2.2.1.2)
      have d9 := spn_rng hD hx.2.2.2.1
      have := rt_rng (A := pkA n s a b k) (D := (n * val h l - s * s) * (9 * n)) ⟨p5.1, by omega⟩ d9.1
      simp only [r20pk_sem, r20pk_sp, Fits, and_true, pkLo, pkHi]
      refine ⟨?_, ?_, ?_, ?_⟩ <;> split <;> omega
    · rw [r20pk_den]
      simp only [r20pk_sem, r20pk_sp, wup_sem, r20pk_den, radd_sem, rtimes_sem, rdiv_sem, rroot_sem, rup_sem, r4prod_sem, r11sp_sem, Tree.den, LE.den, Cv.list, placeA, List.getElem?_cons_zero, List.getElem?_cons_succ, IE.den, BE.den, At.den, CA.den, Env.get, Cv.int, Cv.bool, List.cons_append, List.nil_append, List.map_cons, List.map_nil, bindRes, bindEq, Fits, SV.den, denL, place, placeL, eq_t, eq_f, lt_t, lt_f, le_t, le_f, beq_iff_eq, beq_eq_false_iff_ne, ne_eq, reduceCtorEq, b_dec, decide_eq_true_eq, decide_eq_false_iff_not, Bool.not_eq_false', Bool.or_eq_true, Bool.or_eq_false_iff, Bool.and_eq_false_iff, true_iff, false_iff, Bool.false_eq_true, Bool.not_eq_true', Bool.and_eq_true, Bool.not_true, Bool.not_false, List.cons.injEq, Cv.i.injEq, Cv.b.injEq, and_true, true_and, agg_inj, tup_inj, Value.int.injEq, Value.bool.injEq]
      obtain ⟨c1, c2, c3, c4, c5⟩ := hx
      obtain ⟨r1, r2, r3, r4, r5, r6⟩ := st_rng j_h j_l c1
      obtain ⟨nr1, nr2, nr3⟩ := near_rng (n := n) (s := s) (mn := mn) (mx := mx) c2 r1 r2
      obtain ⟨p0, p1, p2, p3, p5⟩ := pkA_rng (n := n) (s := s) c2 c3 c4 (st_s c1 c4.2)
      have sp0 := ab_sp j_h j_l c1 c4.2
      have u0 : IsU 0 := ⟨by omega, by omega⟩
      have u1 : IsU 1 := ⟨by omega, by omega⟩
      have ub : ∀ x : Int, IsU (x % 18446744073709551616) := fun x => ⟨by omega, by omega⟩
      have u7 : IsU ((n * val h l - s * s) / 18446744073709551616) := ⟨by omega, by omega⟩
      have e6 := vq (n * val h l - s * s)
      have nn1 := nn_mul (x := n) (y := n - 1) (X := 1000) (Y := 1000) (by omega) (by omega)
      have kk1 := nn_mul (x := k) (y := k) (X := 1000) (Y := 1000) (by omega) (by omega)
      have w2 : IntKind.i64.wrap (n - 1) = n - 1 := w64 (by omega) (by omega)
      have w4 : IntKind.i64.wrap (k * k) = k * k := w64 (by omega) (by omega)
      have w6 : IntKind.u64.wrap (k * k) = k * k := wu64 (by omega) (by omega)
      have u4 : IsU (k * k) := ⟨by omega, by omega⟩
      have v1 : IntKind.i64.wrap (b * n) = b * n := w64 (by omega) (by omega)
      have v2 : IntKind.i64.wrap (b * n - s) = b * n - s := w64 (by omega) (by omega)
      have v3 : IntKind.i64.wrap (a * n) = a * n := w64 (by omega) (by omega)
      have v4 : IntKind.i64.wrap (s - a * n) = s - a * n := w64 (by omega) (by omega)
      have v5 : (if s - a * n < b * n - s then s - a * n else b * n - s) = nearZ n s a b := rfl
      have i1 : IsI (nearZ n s a b) := ⟨by omega, by omega⟩
      have w1 : IntKind.u64.wrap (n - 1) = n - 1 := wu64 (by omega) (by omega)
      have w7 : IntKind.i64.wrap (9 * n) = 9 * n := w64 (by omega) (by omega)
      have w8 : IntKind.u64.wrap (9 * n) = 9 * n := wu64 (by omega) (by omega)
      have u3 : IsU (n - 1) := ⟨by omega, by omega⟩
      have u2 : IsU (9 * n) := ⟨by omega, by omega⟩
      have eA : nearZ n s a b * nearZ n s a b * (n - 1) * (k * k) = pkA n s a b k := by unfold pkA; ac_rfl
      have u5 : IsU (nearZ n s a b * nearZ n s a b / 18446744073709551616) := ⟨by omega, by omega⟩
      have e1 := vq (nearZ n s a b * nearZ n s a b)
      have e2 := vq2 p2.1 (by omega)
      have d9 := spn_rng (SP := n * val h l - s * s) (n := n) (by omega) c4
      obtain ⟨y1, y2, y3, y4, y5⟩ := rt_rng (A := pkA n s a b k) (D := (n * val h l - s * s) * (9 * n)) ⟨p5.1, by omega⟩ d9.1
      have y6 : IntKind.i64.wrap (0 - rtHi (pkA n s a b k) ((n * val h l - s * s) * (9 * n))) = -(rtHi (pkA n s a b k) ((n * val h l - s * s) * (9 * n))) := by rw [w64 (by omega) (by omega)]; omega
      have y7 : IntKind.i64.wrap (0 - rtLo (pkA n s a b k) ((n * val h l - s * s) * (9 * n))) = -(rtLo (pkA n s a b k) ((n * val h l - s * s) * (9 * n))) := by rw [w64 (by omega) (by omega)]; omega
      obtain ⟨⟨t1, t2⟩, t3, ⟨t4, t5⟩, t6, t7, t8, t9, t10⟩ := rooted (A := pkA n s a b k) (D := (n * val h l - s * s) * (9 * n)) ⟨p5.1, by omega⟩ ⟨d9.1, by omega⟩
      have hD : 1 ≤ (n * val h l - s * s) * (9 * n) := d9.1
      by_cases hr : pkA n s a b k % ((n * val h l - s * s) * (9 * n)) = 0
      · have t7 := t7 hr
        have z3 : (0 : Int) / 18446744073709551616 = 0 := by decide
        have z4 : (0 : Int) % 18446744073709551616 = 0 := by decide
        by_cases sg : nearZ n s a b < 0
        · have sg2 : (0 ≤ nearZ n s a b) = False := eq_false (by omega)
          simp only [hr, hD, sg, sg2, pkLo, pkHi, y6, y7, c1, v1, v2, v3, v4, v5, w1, w2, w4, w6, w7, w8, i1, u0, u1, u2, u3, u4, u5, u7, ub, abs_sq, val0, e1, e2, e6, eA, t1, t2, t3, t4, t5, t6, t7, t9, t10, z3, z4, j_n, j_s, j_h, j_l, j_mn, j_mx, forall_eq, eq_self, f00, if_true, if_false, true_and, and_true, false_and, and_false, true_or, or_true, false_or, or_false, true_iff, iff_true, false_iff, iff_false, not_true_eq_false, not_false_eq_true, true_implies, false_implies, implies_true, forall_const, decide_true, decide_false, reduceCtorEq]
        · have sg2 : 0 ≤ nearZ n s a b := by omega
          simp only [hr, hD, sg, sg2, pkLo, pkHi, y6, y7, c1, v1, v2, v3, v4, v5, w1, w2, w4, w6, w7, w8, i1, u0, u1, u2, u3, u4, u5, u7, ub, abs_sq, val0, e1, e2, e6, eA, t1, t2, t3, t4, t5, t6, t7, t9, t10, z3, z4, j_n, j_s, j_h, j_l, j_mn, j_mx, forall_eq, eq_self, f00, if_true, if_false, true_and, and_true, false_and, and_false, true_or, or_true, false_or, or_false, true_iff, iff_true, false_iff, iff_false, not_true_eq_false, not_false_eq_true, true_implies, false_implies, implies_true, forall_const, decide_true, decide_false, reduceCtorEq]
      · have t8 := t8 hr
        have z1 : (¬ pkA n s a b k % ((n * val h l - s * s) * (9 * n)) / 18446744073709551616 = 0 ∨ ¬ pkA n s a b k % ((n * val h l - s * s) * (9 * n)) % 18446744073709551616 = 0) = True := eq_true (by omega)
        have z2 : (pkA n s a b k % ((n * val h l - s * s) * (9 * n)) / 18446744073709551616 = 0 ∧ pkA n s a b k % ((n * val h l - s * s) * (9 * n)) % 18446744073709551616 = 0) = False := eq_false (by omega)
        by_cases sg : nearZ n s a b < 0
        · have sg2 : (0 ≤ nearZ n s a b) = False := eq_false (by omega)
          simp only [hD, z1, z2, sg, sg2, pkLo, pkHi, y6, y7, c1, v1, v2, v3, v4, v5, w1, w2, w4, w6, w7, w8, i1, u0, u1, u2, u3, u4, u5, u7, ub, abs_sq, val0, e1, e2, e6, eA, t1, t2, t3, t4, t5, t6, t8, t9, t10, j_n, j_s, j_h, j_l, j_mn, j_mx, forall_eq, eq_self, f00, if_true, if_false, true_and, and_true, false_and, and_false, true_or, or_true, false_or, or_false, true_iff, iff_true, false_iff, iff_false, not_true_eq_false, not_false_eq_true, true_implies, false_implies, implies_true, forall_const, decide_true, decide_false, reduceCtorEq]
        · have sg2 : 0 ≤ nearZ n s a b := by omega
          simp only [hD, z1, z2, sg, sg2, pkLo, pkHi, y6, y7, c1, v1, v2, v3, v4, v5, w1, w2, w4, w6, w7, w8, i1, u0, u1, u2, u3, u4, u5, u7, ub, abs_sq, val0, e1, e2, e6, eA, t1, t2, t3, t4, t5, t6, t8, t9, t10, j_n, j_s, j_h, j_l, j_mn, j_mx, forall_eq, eq_self, f00, if_true, if_false, true_and, and_true, false_and, and_false, true_or, or_true, false_or, or_false, true_iff, iff_true, false_iff, iff_false, not_true_eq_false, not_false_eq_true, true_implies, false_implies, implies_true, forall_const, decide_true, decide_false, reduceCtorEq]
end Go.Proofs.Ytgnihomdpandfaa.X
