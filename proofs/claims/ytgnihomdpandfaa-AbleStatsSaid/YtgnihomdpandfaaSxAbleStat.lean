/-
  AbleStats tells true, for every input.
-/
import Derived.Test.YtgnihomdpandfaaSxAbleLaw
import Derived.Test.YtgnihomdpandfaaSxAbleRef
namespace Go.Proofs.Ytgnihomdpandfaa.X
open Go Go.SX Go.RowKit
set_option linter.unusedVariables false
set_option linter.unusedSimpArgs false






def lastat_sp : SpecSh := { args := [(.agg [(.int .i64 (.z 0)), (.int .i64 (.z 0)), (.int .u64 (.z 0)), (.int .u64 (.z 0)), (.int .i64 (.z 0)), (.int .i64 (.z 0))]), (.int .i64 (.z 0)), (.int .i64 (.z 0)), (.int .i64 (.z 0))], res := (.bool .f), sh := [.b] }
set_option maxRecDepth 100000 in
def lastat_tree : Tree :=
.call 29 [.i (some ((-9223372036854775808), 9223372036854775807)), .i (some ((-9223372036854775808), 9223372036854775807)), .i (some ((-9223372036854775808), 9223372036854775807))] [.i (.v 0), .i (.v 1), .i (.v 2), .i (.v 3), .i (.v 4), .i (.v 5), .i (.v 6), .i (.v 7), .i (.v 8)] <|
.call 30 [.i (some ((-9223372036854775808), 9223372036854775807)), .i (some ((-9223372036854775808), 9223372036854775807)), .i (some ((-9223372036854775808), 9223372036854775807))] [.i (.v 0), .i (.v 1), .i (.v 2), .i (.v 3), .i (.v 4), .i (.v 5), .i (.v 6), .i (.v 7), .i (.v 8)] <|
.call 31 [.i (some ((-9223372036854775808), 9223372036854775807))] [.i (.v 0), .i (.v 1), .i (.v 2), .i (.v 3), .i (.v 4), .i (.v 5), .i (.v 6), .i (.v 7), .i (.v 8)] <|
.ite (.not (.cmp .eq (.v 15) (.z 0))) (.call 32 [.b] [] <|
.ite (.v 16) (.ite (.cmp .eq (.v 11) (.v 15)) (.ite (.cmp .eq (.v 14) (.v 15)) (.ite (.and (.cmp .eq (.v 9) (.z 0)) (.cmp .eq (.v 10) (.z 0))) (.ret (.bool (.and (.cmp .eq (.v 12) (.z 0)) (.cmp .eq (.v 13) (.z 0))))) <|
.ret (.bool .f)) <|
.ret (.bool .f)) <|
.ret (.bool .f)) <|
.ret (.bool .f)) <|
.call 32 [.b] [] <|
.ite (.v 16) (.ite (.cmp .eq (.v 11) (.z 0)) (.ite (.cmp .eq (.v 14) (.z 0)) (.call 33 [.i (some ((-9223372036854775808), 9223372036854775807)), .i (some ((-9223372036854775808), 9223372036854775807))] [.i (.v 0), .i (.v 1), .i (.v 2), .i (.v 3), .i (.v 4), .i (.v 5), .i (.v 6), .i (.v 7), .i (.v 8)] <|
.ite (.and (.cmp .eq (.v 9) (.v 17)) (.cmp .eq (.v 10) (.v 18))) (.call 34 [.i (some ((-9223372036854775808), 9223372036854775807)), .i (some ((-9223372036854775808), 9223372036854775807))] [.i (.v 0), .i (.v 1), .i (.v 2), .i (.v 3), .i (.v 4), .i (.v 5), .i (.v 6), .i (.v 7), .i (.v 8)] <|
.ret (.bool (.and (.cmp .eq (.v 12) (.v 19)) (.cmp .eq (.v 13) (.v 20))))) <|
.ret (.bool .f)) <|
.ret (.bool .f)) <|
.ret (.bool .f)) <|
.ret (.bool .f)
noncomputable def lastat_cx : Ctx := { tys := tys, fns := fns, sps := [(29, app_sp), (30, appk_sp), (32, a20al_sp), (31, r20st_sp), (33, r20pp_sp), (34, r20pk_sp)], anns := [], trys := [] }
def lastat_ivs : List (Option (Int × Int)) := [some ((-9223372036854775808), 9223372036854775807), some ((-9223372036854775808), 9223372036854775807), some (0, 18446744073709551615), some (0, 18446744073709551615), some ((-9223372036854775808), 9223372036854775807), some ((-9223372036854775808), 9223372036854775807), some ((-9223372036854775808), 9223372036854775807), some ((-9223372036854775808), 9223372036854775807), some ((-9223372036854775808), 9223372036854775807)]
set_option maxRecDepth 100000 in
theorem lastat_walk : runFn lastat_cx 3000 8 Try.f8 lastat_sp.args lastat_ivs = lastat_tree := by kernel_rfl
noncomputable def lastat_M : Nat → SpecSem
  | 29 => app_sem
  | 30 => appk_sem
  | 32 => a20al_sem
  | 31 => r20st_sem
  | 33 => r20pp_sem
  | 34 => r20pk_sem
  | _ => noSem
theorem lastat_M29 : lastat_M 29 = app_sem := rfl
theorem lastat_M30 : lastat_M 30 = appk_sem := rfl
theorem lastat_M32 : lastat_M 32 = a20al_sem := rfl
theorem lastat_M31 : lastat_M 31 = r20st_sem := rfl
theorem lastat_M33 : lastat_M 33 = r20pp_sem := rfl
theorem lastat_M34 : lastat_M 34 = r20pk_sem := rfl
theorem lastat_cxok : CxOK Try.prog lastat_cx lastat_M := ⟨tysOK, fnsOK, spCons app_ok <| spCons appk_ok <| spCons a20al_ok <| spCons r20st_ok <| spCons r20pp_ok <| spCons r20pk_ok <| fun _ _ h => spNil h, mixedOK, fun _ _ h => trNil h⟩
set_option maxRecDepth 100000 in
set_option maxHeartbeats 8000000 in
theorem lastat_den (R RP : Value → Prop) (F : Ex → St → Js → Env → Prop) (J : Js) (x0 : Int) (x1 : Int) (x2 : Int) (x3 : Int) (x4 : Int) (x5 : Int) (x6 : Int) (x7 : Int) (x8 : Int) : Tree.den lastat_M R RP F lastat_tree J [(.i x0), (.i x1), (.i x2), (.i x3), (.i x4), (.i x5), (.i x6), (.i x7), (.i x8)] = (
  (app_sem.pre [(.i x0), (.i x1), (.i x2), (.i x3), (.i x4), (.i x5), (.i x6), (.i x7), (.i x8)]) ∧ (
∀ x9 : Int, x9 = (Cv.int (Env.get (app_sem.out [(.i x0), (.i x1), (.i x2), (.i x3), (.i x4), (.i x5), (.i x6), (.i x7), (.i x8)]) 0)) → (-9223372036854775808 : Int) ≤ x9 → x9 ≤ (9223372036854775807 : Int) →
∀ x10 : Int, x10 = (Cv.int (Env.get (app_sem.out [(.i x0), (.i x1), (.i x2), (.i x3), (.i x4), (.i x5), (.i x6), (.i x7), (.i x8)]) 1)) → (-9223372036854775808 : Int) ≤ x10 → x10 ≤ (9223372036854775807 : Int) →
∀ x11 : Int, x11 = (Cv.int (Env.get (app_sem.out [(.i x0), (.i x1), (.i x2), (.i x3), (.i x4), (.i x5), (.i x6), (.i x7), (.i x8)]) 2)) → (-9223372036854775808 : Int) ≤ x11 → x11 ≤ (9223372036854775807 : Int) →
(appk_sem.pre [(.i x0), (.i x1), (.i x2), (.i x3), (.i x4), (.i x5), (.i x6), (.i x7), (.i x8)]) ∧ (
∀ x12 : Int, x12 = (Cv.int (Env.get (appk_sem.out [(.i x0), (.i x1), (.i x2), (.i x3), (.i x4), (.i x5), (.i x6), (.i x7), (.i x8)]) 0)) → (-9223372036854775808 : Int) ≤ x12 → x12 ≤ (9223372036854775807 : Int) →
∀ x13 : Int, x13 = (Cv.int (Env.get (appk_sem.out [(.i x0), (.i x1), (.i x2), (.i x3), (.i x4), (.i x5), (.i x6), (.i x7), (.i x8)]) 1)) → (-9223372036854775808 : Int) ≤ x13 → x13 ≤ (9223372036854775807 : Int) →
∀ x14 : Int, x14 = (Cv.int (Env.get (appk_sem.out [(.i x0), (.i x1), (.i x2), (.i x3), (.i x4), (.i x5), (.i x6), (.i x7), (.i x8)]) 2)) → (-9223372036854775808 : Int) ≤ x14 → x14 ≤ (9223372036854775807 : Int) →
(r20st_sem.pre [(.i x0), (.i x1), (.i x2), (.i x3), (.i x4), (.i x5), (.i x6), (.i x7), (.i x8)]) ∧ (
∀ x15 : Int, x15 = (Cv.int (Env.get (r20st_sem.out [(.i x0), (.i x1), (.i x2), (.i x3), (.i x4), (.i x5), (.i x6), (.i x7), (.i x8)]) 0)) → (-9223372036854775808 : Int) ≤ x15 → x15 ≤ (9223372036854775807 : Int) →
((!(Cmp.den .eq x15 (0 : Int))) = true → (a20al_sem.pre []) ∧ (
((Cv.bool (Env.get (a20al_sem.out []) 0)) = true → ((Cmp.den .eq x11 x15) = true → ((Cmp.den .eq x14 x15) = true → (((Cmp.den .eq x9 (0 : Int)) && (Cmp.den .eq x10 (0 : Int))) = true → R (Value.bool ((Cmp.den .eq x12 (0 : Int)) && (Cmp.den .eq x13 (0 : Int))))) ∧ (((Cmp.den .eq x9 (0 : Int)) && (Cmp.den .eq x10 (0 : Int))) = false → R (Value.bool false))) ∧ ((Cmp.den .eq x14 x15) = false → R (Value.bool false))) ∧ ((Cmp.den .eq x11 x15) = false → R (Value.bool false))) ∧ ((Cv.bool (Env.get (a20al_sem.out []) 0)) = false → R (Value.bool false)))) ∧ ((!(Cmp.den .eq x15 (0 : Int))) = false → (a20al_sem.pre []) ∧ (
((Cv.bool (Env.get (a20al_sem.out []) 0)) = true → ((Cmp.den .eq x11 (0 : Int)) = true → ((Cmp.den .eq x14 (0 : Int)) = true → (r20pp_sem.pre [(.i x0), (.i x1), (.i x2), (.i x3), (.i x4), (.i x5), (.i x6), (.i x7), (.i x8)]) ∧ (
∀ x17 : Int, x17 = (Cv.int (Env.get (r20pp_sem.out [(.i x0), (.i x1), (.i x2), (.i x3), (.i x4), (.i x5), (.i x6), (.i x7), (.i x8)]) 0)) → (-9223372036854775808 : Int) ≤ x17 → x17 ≤ (9223372036854775807 : Int) →
∀ x18 : Int, x18 = (Cv.int (Env.get (r20pp_sem.out [(.i x0), (.i x1), (.i x2), (.i x3), (.i x4), (.i x5), (.i x6), (.i x7), (.i x8)]) 1)) → (-9223372036854775808 : Int) ≤ x18 → x18 ≤ (9223372036854775807 : Int) →
(((Cmp.den .eq x9 x17) && (Cmp.den .eq x10 x18)) = true → (r20pk_sem.pre [(.i x0), (.i x1), (.i x2), (.i x3), (.i x4), (.i x5), (.i x6), (.i x7), (.i x8)]) ∧ (
∀ x19 : Int, x19 = (Cv.int (Env.get (r20pk_sem.out [(.i x0), (.i x1), (.i x2), (.i x3), (.i x4), (.i x5), (.i x6), (.i x7), (.i x8)]) 0)) → (-9223372036854775808 : Int) ≤ x19 → x19 ≤ (9223372036854775807 : Int) →
∀ x20 : Int, x20 = (Cv.int (Env.get (r20pk_sem.out [(.i x0), (.i x1), (.i x2), (.i x3), (.i x4), (.i x5), (.i x6), (.i x7), (.i x8)]) 1)) → (-9223372036854775808 : Int) ≤ x20 → x20 ≤ (9223372036854775807 : Int) →
R (Value.bool ((Cmp.den .eq x12 x19) && (Cmp.den .eq x13 x20))))) ∧ (((Cmp.den .eq x9 x17) && (Cmp.den .eq x10 x18)) = false → R (Value.bool false)))) ∧ ((Cmp.den .eq x14 (0 : Int)) = false → R (Value.bool false))) ∧ ((Cmp.den .eq x11 (0 : Int)) = false → R (Value.bool false))) ∧ ((Cv.bool (Env.get (a20al_sem.out []) 0)) = false → R (Value.bool false)))))))) := by kernel_rfl

def lastat_sem : SpecSem := { pre := fun cs => match cs with | [.i n, .i s, .i h, .i l, .i mn, .i mx, .i a, .i b, .i k] => IsI n ∧ IsI s ∧ IsU h ∧ IsU l ∧ IsI mn ∧ IsI mx ∧ IsI a ∧ IsI b ∧ IsI k | _ => False, out := fun cs => match cs with | [.i n, .i s, .i h, .i l, .i mn, .i mx, .i a, .i b, .i k] => [.b true] | _ => [] }
set_option maxRecDepth 10000 in
set_option maxHeartbeats 16000000 in
theorem lastat_ok : SpecOK Try.prog 8 lastat_sp lastat_sem := by
  refine spec_of_tree lastat_cxok Try.func8 (by kernel_rfl) (by kernel_rfl) lastat_walk rfl ?_
  intro cs hpre
  match cs, hpre with
  | [.i n, .i s, .i h, .i l, .i mn, .i mx, .i a, .i b, .i k], ⟨j_n, j_s, j_h, j_l, j_mn, j_mx, j_a, j_b, j_k⟩ =>
    have h_n := j_n
    unfold IsI at h_n
    have h_s := j_s
    unfold IsI at h_s
    have h_h := j_h
    unfold IsU at h_h
    have h_l := j_l
    unfold IsU at h_l
    have h_mn := j_mn
    unfold IsI at h_mn
    have h_mx := j_mx
    unfold IsI at h_mx
    have h_a := j_a
    unfold IsI at h_a
    have h_b := j_b
    unfold IsI at h_b
    have h_k := j_k
    unfold IsI at h_k
    refine ⟨rfl, IvsB.ok (by simp only [lastat_ivs, IvsB, Cv.int, and_true] <;> omega), ?_, ?_⟩
    · simp only [lastat_sem, lastat_sp, Fits]
    · rw [lastat_den]
      simp only [lastat_sem, lastat_sp, lastat_den, app_sem, appk_sem, a20al_sem, r20st_sem, r20pp_sem, r20pk_sem, Tree.den, LE.den, Cv.list, placeA, List.getElem?_cons_zero, List.getElem?_cons_succ, IE.den, BE.den, At.den, CA.den, Env.get, Cv.int, Cv.bool, List.cons_append, List.nil_append, List.map_cons, List.map_nil, bindRes, bindEq, Fits, SV.den, denL, place, placeL, eq_t, eq_f, lt_t, lt_f, le_t, le_f, beq_iff_eq, beq_eq_false_iff_ne, ne_eq, reduceCtorEq, b_dec, decide_eq_true_eq, decide_eq_false_iff_not, Bool.not_eq_false', Bool.or_eq_true, Bool.or_eq_false_iff, Bool.and_eq_false_iff, true_iff, false_iff, Bool.false_eq_true, Bool.not_eq_true', Bool.and_eq_true, Bool.not_true, Bool.not_false, List.cons.injEq, Cv.i.injEq, Cv.b.injEq, and_true, true_and, agg_inj, tup_inj, Value.int.injEq, Value.bool.injEq]
      by_cases ho : abOK n s h l mn mx a b k
      · have he : abE n s h l mn mx a b k = 0 := by
          obtain ⟨c1, c2, c3, c4, c5⟩ := ho
          unfold abE
          rw [if_pos ⟨c1, c2⟩, if_pos c3, if_pos c4.1, if_pos c4.2, if_neg c5]
        simp only [ho, he, j_n, j_s, j_h, j_l, j_mn, j_mx, j_a, j_b, j_k, forall_eq, eq_self, f00, if_true, if_false, true_and, and_true, false_and, and_false, true_or, or_true, false_or, or_false, true_iff, iff_true, false_iff, iff_false, not_true_eq_false, not_false_eq_true, true_implies, false_implies, implies_true, forall_const, decide_true, decide_false, reduceCtorEq]
      · have he : ¬ abE n s h l mn mx a b k = 0 := by
          intro q
          unfold abE at q
          by_cases c1 : stOK n s h l mn mx ∧ (-1000000 ≤ a ∧ b ≤ 1000000 ∧ a < b)
          · rw [if_pos c1] at q
            by_cases c3 : 1 ≤ k ∧ k ≤ 1000
            · rw [if_pos c3] at q
              by_cases c4 : 2 ≤ n
              · rw [if_pos c4] at q
                by_cases c5 : n ≤ 1000
                · rw [if_pos c5] at q
                  by_cases c6 : n * val h l - s * s = 0
                  · rw [if_pos c6] at q; omega
                  · exact ho ⟨c1.1, c1.2, c3, ⟨c4, c5⟩, c6⟩
                · rw [if_neg c5] at q; omega
              · rw [if_neg c4] at q; omega
            · rw [if_neg c3] at q; omega
          · rw [if_neg c1] at q; omega
        simp only [ho, he, j_n, j_s, j_h, j_l, j_mn, j_mx, j_a, j_b, j_k, forall_eq, eq_self, f00, if_true, if_false, true_and, and_true, false_and, and_false, true_or, or_true, false_or, or_false, true_iff, iff_true, false_iff, iff_false, not_true_eq_false, not_false_eq_true, true_implies, false_implies, implies_true, forall_const, decide_true, decide_false, reduceCtorEq]
end Go.Proofs.Ytgnihomdpandfaa.X
