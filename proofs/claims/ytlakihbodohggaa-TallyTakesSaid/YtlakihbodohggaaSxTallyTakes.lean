/-
  TallyTakes holds of every input: its contract.
-/
import Derived.Test.YtlakihbodohggaaSxTally
namespace Go.Proofs.Ytlakihbodohggaa.X
open Go Go.SX Go.RowKit
set_option linter.unusedVariables false
set_option linter.unusedSimpArgs false








def ltakes_sp : SpecSh := { args := [(.int .i64 (.z 0)), (.int .i64 (.z 0)), (.agg [(.int .i64 (.z 0)), (.int .i64 (.z 0)), (.int .i64 (.z 0)), (.int .i64 (.z 0))]), (.int .i64 (.z 0))], res := (.bool .f), sh := [.b] }
set_option maxRecDepth 100000 in
def ltakes_tree : Tree :=
.call 10 [.i (some ((-9223372036854775808), 9223372036854775807)), .i (some ((-9223372036854775808), 9223372036854775807)), .i (some ((-9223372036854775808), 9223372036854775807)), .i (some ((-9223372036854775808), 9223372036854775807)), .i (some ((-9223372036854775808), 9223372036854775807))] [.i (.v 0), .i (.v 1)] <|
.call 11 [.i (some ((-9223372036854775808), 9223372036854775807)), .i (some ((-9223372036854775808), 9223372036854775807)), .i (some ((-9223372036854775808), 9223372036854775807)), .i (some ((-9223372036854775808), 9223372036854775807)), .i (some ((-9223372036854775808), 9223372036854775807))] [.i (.v 2), .i (.v 3), .i (.v 4), .i (.v 5), .i (.v 6)] <|
.call 12 [.b] [.i (.v 2), .i (.v 3), .i (.v 4), .i (.v 5)] <|
.call 13 [.b] [.i (.v 2), .i (.v 3), .i (.v 4), .i (.v 5)] <|
.ite (.not (.eqv (.v 17) (.v 18))) (.ret (.bool .f)) <|
.call 14 [.b] [] <|
.ite (.not (.v 19)) (.ret (.bool .f)) <|
.call 15 [.b] [.i (.v 0), .i (.v 1)] <|
.ite (.not (.v 20)) (.ite (.not (.cmp .eq (.v 11) (.z 1))) (.ret (.bool .f)) <|
.ite (.not (.and (.cmp .eq (.v 7) (.z 0)) (.and (.cmp .eq (.v 8) (.z 0)) (.and (.cmp .eq (.v 9) (.z 0)) (.cmp .eq (.v 10) (.z 0)))))) (.ret (.bool .f)) <|
.call 13 [.b] [.i (.v 2), .i (.v 3), .i (.v 4), .i (.v 5)] <|
.ite (.not (.v 21)) (.ite (.cmp .eq (.v 16) (.z 1)) (.ret (.bool (.and (.cmp .eq (.v 12) (.z 0)) (.and (.cmp .eq (.v 13) (.z 0)) (.and (.cmp .eq (.v 14) (.z 0)) (.cmp .eq (.v 15) (.z 0))))))) <|
.ret (.bool .f)) <|
.call 16 [.b] [.i (.v 2), .i (.v 3), .i (.v 4), .i (.v 5), .i (.v 6)] <|
.ite (.not (.v 22)) (.ite (.cmp .eq (.v 16) (.z 1)) (.ret (.bool (.and (.cmp .eq (.v 12) (.z 0)) (.and (.cmp .eq (.v 13) (.z 0)) (.and (.cmp .eq (.v 14) (.z 0)) (.cmp .eq (.v 15) (.z 0))))))) <|
.ret (.bool .f)) <|
.ite (.cmp .eq (.v 4) (.z 25)) (.ite (.cmp .eq (.v 16) (.z 11)) (.ret (.bool (.and (.cmp .eq (.v 12) (.z 0)) (.and (.cmp .eq (.v 13) (.z 0)) (.and (.cmp .eq (.v 14) (.z 0)) (.cmp .eq (.v 15) (.z 0))))))) <|
.ret (.bool .f)) <|
.ite (.cmp .eq (.v 16) (.z 0)) (.lett (.addw .i64 (.v 4) (.z 1)) <|
.lett (.addw .i64 (.v 5) (.v 6)) <|
.ret (.bool (.and (.cmp .eq (.v 12) (.v 2)) (.and (.cmp .eq (.v 13) (.v 3)) (.and (.cmp .eq (.v 14) (.v 23)) (.cmp .eq (.v 15) (.v 24))))))) <|
.ret (.bool .f)) <|
.ite (.not (.cmp .eq (.v 11) (.z 0))) (.ret (.bool .f)) <|
.ite (.not (.and (.cmp .eq (.v 7) (.v 0)) (.and (.cmp .eq (.v 8) (.v 1)) (.and (.cmp .eq (.v 9) (.z 0)) (.cmp .eq (.v 10) (.z 0)))))) (.ret (.bool .f)) <|
.call 13 [.b] [.i (.v 2), .i (.v 3), .i (.v 4), .i (.v 5)] <|
.ite (.not (.v 21)) (.ite (.cmp .eq (.v 16) (.z 1)) (.ret (.bool (.and (.cmp .eq (.v 12) (.z 0)) (.and (.cmp .eq (.v 13) (.z 0)) (.and (.cmp .eq (.v 14) (.z 0)) (.cmp .eq (.v 15) (.z 0))))))) <|
.ret (.bool .f)) <|
.call 16 [.b] [.i (.v 2), .i (.v 3), .i (.v 4), .i (.v 5), .i (.v 6)] <|
.ite (.not (.v 22)) (.ite (.cmp .eq (.v 16) (.z 1)) (.ret (.bool (.and (.cmp .eq (.v 12) (.z 0)) (.and (.cmp .eq (.v 13) (.z 0)) (.and (.cmp .eq (.v 14) (.z 0)) (.cmp .eq (.v 15) (.z 0))))))) <|
.ret (.bool .f)) <|
.ite (.cmp .eq (.v 4) (.z 25)) (.ite (.cmp .eq (.v 16) (.z 11)) (.ret (.bool (.and (.cmp .eq (.v 12) (.z 0)) (.and (.cmp .eq (.v 13) (.z 0)) (.and (.cmp .eq (.v 14) (.z 0)) (.cmp .eq (.v 15) (.z 0))))))) <|
.ret (.bool .f)) <|
.ite (.cmp .eq (.v 16) (.z 0)) (.lett (.addw .i64 (.v 4) (.z 1)) <|
.lett (.addw .i64 (.v 5) (.v 6)) <|
.ret (.bool (.and (.cmp .eq (.v 12) (.v 2)) (.and (.cmp .eq (.v 13) (.v 3)) (.and (.cmp .eq (.v 14) (.v 23)) (.cmp .eq (.v 15) (.v 24))))))) <|
.ret (.bool .f)
noncomputable def ltakes_cx : Ctx := { tys := tys, fns := fns, sps := [(10, tnew_sp), (11, ttake_sp), (12, tright_sp), (13, rright_sp), (15, rsizes_sp), (16, rcount_sp), (14, talive_sp)], anns := [] }
def ltakes_ivs : List (Option (Int × Int)) := [some ((-9223372036854775808), 9223372036854775807), some ((-9223372036854775808), 9223372036854775807), some ((-9223372036854775808), 9223372036854775807), some ((-9223372036854775808), 9223372036854775807), some ((-9223372036854775808), 9223372036854775807), some ((-9223372036854775808), 9223372036854775807), some ((-9223372036854775808), 9223372036854775807)]
set_option maxRecDepth 100000 in
theorem ltakes_walk : runFn ltakes_cx 3000 4 Try.f4 ltakes_sp.args ltakes_ivs = ltakes_tree := by kernel_rfl
noncomputable def ltakes_M : Nat → SpecSem
  | 10 => tnew_sem
  | 11 => ttake_sem
  | 12 => tright_sem
  | 13 => rright_sem
  | 15 => rsizes_sem
  | 16 => rcount_sem
  | 14 => talive_sem
  | _ => noSem
theorem ltakes_M10 : ltakes_M 10 = tnew_sem := rfl
theorem ltakes_M11 : ltakes_M 11 = ttake_sem := rfl
theorem ltakes_M12 : ltakes_M 12 = tright_sem := rfl
theorem ltakes_M13 : ltakes_M 13 = rright_sem := rfl
theorem ltakes_M15 : ltakes_M 15 = rsizes_sem := rfl
theorem ltakes_M16 : ltakes_M 16 = rcount_sem := rfl
theorem ltakes_M14 : ltakes_M 14 = talive_sem := rfl
theorem ltakes_cxok : CxOK Try.prog ltakes_cx ltakes_M := ⟨tysOK, fnsOK, spCons tnew_ok <| spCons ttake_ok <| spCons tright_ok <| spCons rright_ok <| spCons rsizes_ok <| spCons rcount_ok <| spCons talive_ok <| fun _ _ h => spNil h, mixedOK⟩

def ltakes_sem : SpecSem := { pre := fun cs => match cs with | [.i a, .i b, .i k, .i s, .i m, .i u, .i d] => IsI a ∧ IsI b ∧ IsI k ∧ IsI s ∧ IsI m ∧ IsI u ∧ IsI d | _ => False, out := fun cs => match cs with | [.i a, .i b, .i k, .i s, .i m, .i u, .i d] => [.b true] | _ => [] }
theorem ltakes_ok : SpecOK Try.prog 4 ltakes_sp ltakes_sem := by
  refine spec_of_tree ltakes_cxok Try.func4 (by kernel_rfl) (by kernel_rfl) ltakes_walk rfl ?_
  intro cs hpre
  match cs, hpre with
  | [.i a, .i b, .i k, .i s, .i m, .i u, .i d], ⟨⟨p1, p2⟩, ⟨p3, p4⟩, ⟨h1, h2⟩, ⟨h3, h4⟩, ⟨h5, h6⟩, ⟨h7, h8⟩, ⟨h9, h10⟩⟩ =>
    refine ⟨rfl, IvsB.ok (by simp only [ltakes_ivs, IvsB, Cv.int, and_true]; omega), ?_, ?_⟩
    · simp only [ltakes_sem, ltakes_sp, Fits]
    · simp only [ltakes_sem, ltakes_sp, rright_sem, IsI, ltakes_tree, ltakes_M10, tnew_sem, ltakes_M11, ttake_sem, ltakes_M12, tright_sem, ltakes_M13, rright_sem, ltakes_M15, rsizes_sem, ltakes_M16, rcount_sem, ltakes_M14, talive_sem, Tree.den, IE.den, BE.den, At.den, CA.den, Env.get, Cv.int, Cv.bool, List.cons_append, List.nil_append, List.map_cons, List.map_nil, bindRes, bindEq, Fits, SV.den, denL, place, placeL, eq_t, eq_f, lt_t, lt_f, le_t, le_f, beq_iff_eq, beq_eq_false_iff_ne, ne_eq, reduceCtorEq, b_dec, decide_eq_true_eq, decide_eq_false_iff_not, Bool.not_eq_false', Bool.or_eq_true, Bool.or_eq_false_iff, Bool.and_eq_false_iff, true_iff, false_iff, Bool.false_eq_true, Bool.not_eq_true', Bool.and_eq_true, Bool.not_true, Bool.not_false, List.cons.injEq, Cv.i.injEq, Cv.b.injEq, and_true, true_and, agg_inj, tup_inj, Value.int.injEq, Value.bool.injEq]
      by_cases hS : TSizes a b
      · by_cases hR : TRight k s m u
        · by_cases hC : TCount k s d
          · have hg := tmay_rng ⟨hR, hC⟩
            have w1 : IntKind.i64.wrap (m + 1) = m + 1 := wrap_id (by simp only [klo]; omega) (by simp only [khi]; omega)
            have w2 : IntKind.i64.wrap (u + d) = u + d := wrap_id (by simp only [klo]; omega) (by simp only [khi]; omega)
            simp only [TMay, hS, hR, hC, w1, w2, if_true, if_false, true_and, and_true, false_and, and_false, true_or, or_true, false_or, or_false, true_iff, iff_true, false_iff, iff_false, not_true_eq_false, not_false_eq_true, true_implies, false_implies, implies_true, forall_const, decide_true, decide_false, reduceCtorEq]
            by_cases hm : m < 25
            · simp only [hm, if_true, if_false, true_and, and_true, false_and, and_false, true_or, or_true, false_or, or_false, true_iff, iff_true, false_iff, iff_false, not_true_eq_false, not_false_eq_true, true_implies, false_implies, implies_true, forall_const, decide_true, decide_false, reduceCtorEq]
              (repeat' (first | intro _ | refine And.intro ?_ ?_ | exact trivial)) <;> omega
            · simp only [hm, if_true, if_false, true_and, and_true, false_and, and_false, true_or, or_true, false_or, or_false, true_iff, iff_true, false_iff, iff_false, not_true_eq_false, not_false_eq_true, true_implies, false_implies, implies_true, forall_const, decide_true, decide_false, reduceCtorEq]
              (repeat' (first | intro _ | refine And.intro ?_ ?_ | exact trivial)) <;> omega
          · simp only [TMay, hS, hR, hC, if_true, if_false, true_and, and_true, false_and, and_false, true_or, or_true, false_or, or_false, true_iff, iff_true, false_iff, iff_false, not_true_eq_false, not_false_eq_true, true_implies, false_implies, implies_true, forall_const, decide_true, decide_false, reduceCtorEq]
            (repeat' (first | intro _ | refine And.intro ?_ ?_ | exact trivial)) <;> omega
        · simp only [TMay, hS, hR, if_true, if_false, true_and, and_true, false_and, and_false, true_or, or_true, false_or, or_false, true_iff, iff_true, false_iff, iff_false, not_true_eq_false, not_false_eq_true, true_implies, false_implies, implies_true, forall_const, decide_true, decide_false, reduceCtorEq]
          (repeat' (first | intro _ | refine And.intro ?_ ?_ | exact trivial)) <;> omega
      · by_cases hR : TRight k s m u
        · by_cases hC : TCount k s d
          · have hg := tmay_rng ⟨hR, hC⟩
            have w1 : IntKind.i64.wrap (m + 1) = m + 1 := wrap_id (by simp only [klo]; omega) (by simp only [khi]; omega)
            have w2 : IntKind.i64.wrap (u + d) = u + d := wrap_id (by simp only [klo]; omega) (by simp only [khi]; omega)
            simp only [TMay, hS, hR, hC, w1, w2, if_true, if_false, true_and, and_true, false_and, and_false, true_or, or_true, false_or, or_false, true_iff, iff_true, false_iff, iff_false, not_true_eq_false, not_false_eq_true, true_implies, false_implies, implies_true, forall_const, decide_true, decide_false, reduceCtorEq]
            by_cases hm : m < 25
            · simp only [hm, if_true, if_false, true_and, and_true, false_and, and_false, true_or, or_true, false_or, or_false, true_iff, iff_true, false_iff, iff_false, not_true_eq_false, not_false_eq_true, true_implies, false_implies, implies_true, forall_const, decide_true, decide_false, reduceCtorEq]
              (repeat' (first | intro _ | refine And.intro ?_ ?_ | exact trivial)) <;> omega
            · simp only [hm, if_true, if_false, true_and, and_true, false_and, and_false, true_or, or_true, false_or, or_false, true_iff, iff_true, false_iff, iff_false, not_true_eq_false, not_false_eq_true, true_implies, false_implies, implies_true, forall_const, decide_true, decide_false, reduceCtorEq]
              (repeat' (first | intro _ | refine And.intro ?_ ?_ | exact trivial)) <;> omega
          · simp only [TMay, hS, hR, hC, if_true, if_false, true_and, and_true, false_and, and_false, true_or, or_true, false_or, or_false, true_iff, iff_true, false_iff, iff_false, not_true_eq_false, not_false_eq_true, true_implies, false_implies, implies_true, forall_const, decide_true, decide_false, reduceCtorEq]
            (repeat' (first | intro _ | refine And.intro ?_ ?_ | exact trivial)) <;> omega
        · simp only [TMay, hS, hR, if_true, if_false, true_and, and_true, false_and, and_false, true_or, or_true, false_or, or_false, true_iff, iff_true, false_iff, iff_false, not_true_eq_false, not_false_eq_true, true_implies, false_implies, implies_true, forall_const, decide_true, decide_false, reduceCtorEq]
          (repeat' (first | intro _ | refine And.intro ?_ ?_ | exact trivial)) <;> omega
end Go.Proofs.Ytlakihbodohggaa.X
