/-
  RatioMakes and RatioDoes tell true, for every input.
-/
import Derived.Test.YtlhmhcjpdpakkaaSxRatioRef2
namespace Go.Proofs.Ytlhmhcjpdpakkaa.X
open Go Go.SX Go.RowKit
set_option linter.unusedVariables false
set_option linter.unusedSimpArgs false












def qal_sp : SpecSh := { args := [], res := (.bool .f), sh := [.b] }
set_option maxRecDepth 100000 in
def qal_tree : Tree :=
.call 38 [.i (some ((-9223372036854775808), 9223372036854775807)), .i (some ((-9223372036854775808), 9223372036854775807)), .i (some ((-9223372036854775808), 9223372036854775807))] [.i (.z 6), .i (.z (-4))] <|
.call 44 [.i (some ((-9223372036854775808), 9223372036854775807)), .i (some ((-9223372036854775808), 9223372036854775807)), .i (some ((-9223372036854775808), 9223372036854775807))] [.i (.v 0), .i (.v 1), .i (.v 0), .i (.v 1)] <|
.ite (.cmp .eq (.v 2) (.z 0)) (.ite (.cmp .eq (.v 5) (.z 0)) (.ite (.cmp .eq (.v 0) (.z (-3))) (.ite (.cmp .eq (.v 1) (.z 2)) (.ite (.cmp .eq (.v 3) (.z (-3))) (.ret (.bool (.cmp .eq (.v 4) (.z 1)))) <|
.ret (.bool .f)) <|
.ret (.bool .f)) <|
.ret (.bool .f)) <|
.ret (.bool .f)) <|
.ret (.bool .f)
noncomputable def qal_cx : Ctx := { tys := tys, fns := fns, sps := [(38, qnew_sp), (44, qadd_sp)], anns := [], trys := [] }
def qal_ivs : List (Option (Int × Int)) := []
set_option maxRecDepth 100000 in
theorem qal_walk : runFn qal_cx 3000 41 Try.f41 qal_sp.args qal_ivs = qal_tree := by kernel_rfl
noncomputable def qal_M : Nat → SpecSem
  | 38 => qnew_sem
  | 44 => qadd_sem
  | _ => noSem
theorem qal_M38 : qal_M 38 = qnew_sem := rfl
theorem qal_M44 : qal_M 44 = qadd_sem := rfl
theorem qal_cxok : CxOK Try.prog qal_cx qal_M := ⟨tysOK, fnsOK, spCons qnew_ok <| spCons qadd_ok <| fun _ _ h => spNil h, mixedOK, fun _ _ h => trNil h⟩

def qal_sem : SpecSem := { pre := fun cs => match cs with | [] => True | _ => False, out := fun cs => match cs with | [] => [.b true] | _ => [] }
theorem qal_ok : SpecOK Try.prog 41 qal_sp qal_sem := by
  refine spec_of_tree qal_cxok Try.func41 (by kernel_rfl) (by kernel_rfl) qal_walk rfl ?_
  intro cs hpre
  match cs, hpre with
  | [], _ =>
    refine ⟨rfl, IvsB.ok (by simp only [qal_ivs, IvsB, Cv.int, and_true]), ?_, ?_⟩
    · simp only [qal_sem, qal_sp, Fits]
    · have e1 : rtN (if (-4 : Int) < 0 then -6 else 6) (absZ (-4)) = -3 := by decide +kernel
      have e2 : rtD (if (-4 : Int) < 0 then -6 else 6) (absZ (-4)) = 2 := by decide +kernel
      have e3 : rtOK (if (-4 : Int) < 0 then -6 else 6) (absZ (-4)) := by decide +kernel
      have f1 : rtN (-3 * 2 + -3 * 2) (2 * 2) = -3 := by decide +kernel
      have f2 : rtD (-3 * 2 + -3 * 2) (2 * 2) = 1 := by decide +kernel
      have f3 : rtOK (-3 * 2 + -3 * 2) (2 * 2) := by decide +kernel
      have f4 : rtR (-3) 2 := by decide +kernel
      have i1 : IsI 6 ∧ IsI (-4) := by decide
      have i2 : IsI (-3) ∧ IsI 2 := by decide
      simp only [qal_sem, qnew_sem, qadd_sem, rtG, qal_sp, qal_tree, qal_M38, qnew_sem, qal_M44, qadd_sem, Tree.den, List.getElem?_cons_zero, List.getElem?_cons_succ, IE.den, BE.den, At.den, CA.den, Env.get, Cv.int, Cv.bool, List.cons_append, List.nil_append, List.map_cons, List.map_nil, bindRes, bindEq, Fits, SV.den, denL, place, placeL, eq_t, eq_f, lt_t, lt_f, le_t, le_f, beq_iff_eq, beq_eq_false_iff_ne, ne_eq, reduceCtorEq, b_dec, decide_eq_true_eq, decide_eq_false_iff_not, Bool.not_eq_false', Bool.or_eq_true, Bool.or_eq_false_iff, Bool.and_eq_false_iff, true_iff, false_iff, Bool.false_eq_true, Bool.not_eq_true', Bool.and_eq_true, Bool.not_true, Bool.not_false, List.cons.injEq, Cv.i.injEq, Cv.b.injEq, and_true, true_and, agg_inj, tup_inj, Value.int.injEq, Value.bool.injEq]
      simp only [e1, e2, e3, i1.1, i1.2, if_true, if_false, true_and, and_true, false_and, and_false, true_or, or_true, false_or, or_false, true_iff, iff_true, false_iff, iff_false, not_true_eq_false, not_false_eq_true, true_implies, false_implies, implies_true, forall_const, decide_true, decide_false, reduceCtorEq]
      intro x hx _ _ y hy _ _ e he _ _
      subst hx hy
      simp only [f1, f2, f3, f4, i2.1, i2.2, if_true, if_false, true_and, and_true, false_and, and_false, true_or, or_true, false_or, or_false, true_iff, iff_true, false_iff, iff_false, not_true_eq_false, not_false_eq_true, true_implies, false_implies, implies_true, forall_const, decide_true, decide_false, reduceCtorEq]
      (repeat' (first | intro _ | refine And.intro ?_ ?_ | exact trivial)) <;> omega
def lrmakes_sp : SpecSh := { args := [(.int .i64 (.z 0)), (.int .i64 (.z 0)), (.agg [(.int .i64 (.z 0)), (.int .i64 (.z 0))])], res := (.bool .f), sh := [.b] }
set_option maxRecDepth 100000 in
def lrmakes_tree : Tree :=
.call 38 [.i (some ((-9223372036854775808), 9223372036854775807)), .i (some ((-9223372036854775808), 9223372036854775807)), .i (some ((-9223372036854775808), 9223372036854775807))] [.i (.v 0), .i (.v 1)] <|
.call 39 [.b] [.i (.v 2), .i (.v 3)] <|
.call 40 [.b] [.i (.v 2), .i (.v 3)] <|
.ite (.not (.eqv (.v 7) (.v 8))) (.ret (.bool .f)) <|
.call 41 [.b] [] <|
.ite (.not (.v 9)) (.ret (.bool .f)) <|
.ite (.cmp .eq (.v 1) (.z 0)) (.ite (.cmp .eq (.v 6) (.z 4)) (.ret (.bool (.and (.cmp .eq (.v 4) (.z 0)) (.cmp .eq (.v 5) (.z 0))))) <|
.ret (.bool .f)) <|
.call 42 [.i (some ((-9223372036854775808), 9223372036854775807)), .i (some ((-9223372036854775808), 9223372036854775807)), .i (some ((-9223372036854775808), 9223372036854775807))] [.i (.v 0), .i (.v 1)] <|
.ite (.and (.cmp .eq (.v 4) (.v 10)) (.cmp .eq (.v 5) (.v 11))) (.ite (.cmp .eq (.v 6) (.v 12)) (.ite (.not (.cmp .eq (.v 6) (.z 0))) (.ret (.bool .t)) <|
.call 39 [.b] [.i (.v 4), .i (.v 5)] <|
.ret (.bool (.v 13))) <|
.ret (.bool .f)) <|
.ret (.bool .f)
noncomputable def lrmakes_cx : Ctx := { tys := tys, fns := fns, sps := [(39, qright_sp), (38, qnew_sp), (40, r6right_sp), (42, r6new_sp), (41, qal_sp)], anns := [], trys := [] }
def lrmakes_ivs : List (Option (Int × Int)) := [some ((-9223372036854775808), 9223372036854775807), some ((-9223372036854775808), 9223372036854775807), some ((-9223372036854775808), 9223372036854775807), some ((-9223372036854775808), 9223372036854775807)]
set_option maxRecDepth 100000 in
theorem lrmakes_walk : runFn lrmakes_cx 3000 5 Try.f5 lrmakes_sp.args lrmakes_ivs = lrmakes_tree := by kernel_rfl
noncomputable def lrmakes_M : Nat → SpecSem
  | 39 => qright_sem
  | 38 => qnew_sem
  | 40 => r6right_sem
  | 42 => r6new_sem
  | 41 => qal_sem
  | _ => noSem
theorem lrmakes_M39 : lrmakes_M 39 = qright_sem := rfl
theorem lrmakes_M38 : lrmakes_M 38 = qnew_sem := rfl
theorem lrmakes_M40 : lrmakes_M 40 = r6right_sem := rfl
theorem lrmakes_M42 : lrmakes_M 42 = r6new_sem := rfl
theorem lrmakes_M41 : lrmakes_M 41 = qal_sem := rfl
theorem lrmakes_cxok : CxOK Try.prog lrmakes_cx lrmakes_M := ⟨tysOK, fnsOK, spCons qright_ok <| spCons qnew_ok <| spCons r6right_ok <| spCons r6new_ok <| spCons qal_ok <| fun _ _ h => spNil h, mixedOK, fun _ _ h => trNil h⟩

def lrmakes_sem : SpecSem := { pre := fun cs => match cs with | [.i n, .i d, .i a, .i b] => IsI n ∧ IsI d ∧ IsI a ∧ IsI b | _ => False, out := fun cs => match cs with | [.i n, .i d, .i a, .i b] => [.b true] | _ => [] }
/-- what is made is one that may be -/
theorem rt_right {N D : Int} (hD : 0 < D) : rtR (rtN N D) (rtD N D) := by
  have hN : 0 ≤ absZ N := by unfold absZ; split <;> omega
  have hg := gcdZ_nonneg (absZ N) D
  have hg0 : gcdZ (absZ N) D ≠ 0 := fun h => by have := (gcdZ_eq_zero hN (Int.le_of_lt hD)).1 h; omega
  have hd := gcdZ_dvd hN (Int.le_of_lt hD)
  have h1 := gcdZ_div hN (Int.le_of_lt hD) hg0
  have eN : absZ (rtN N D) = absZ N / gcdZ (absZ N) D := by
    unfold rtN
    generalize gcdZ (absZ N) D = g at *
    have hn := Int.ediv_nonneg (a := absZ N) (b := g) hN hg
    by_cases hs : N < 0
    · have e : N = -(absZ N) := by unfold absZ; rw [if_pos hs]; omega
      have e2 : N / g = -(absZ N / g) := by
        conv => lhs; rw [e]
        exact Int.neg_ediv_of_dvd (Int.dvd_of_emod_eq_zero hd.1)
      rw [e2]
      generalize absZ N / g = q at *
      unfold absZ; split <;> omega
    · have e : absZ N = N := by unfold absZ; rw [if_neg hs]
      rw [e] at hn ⊢
      unfold absZ; rw [if_neg (by omega)]
  refine ⟨?_, ?_⟩
  · unfold rtD
    have h2 := Int.ediv_mul_cancel (Int.dvd_of_emod_eq_zero hd.2)
    have h3 := Int.ediv_nonneg (a := D) (b := gcdZ (absZ N) D) (Int.le_of_lt hD) hg
    refine Decidable.byContradiction fun hc => ?_
    have : D / gcdZ (absZ N) D = 0 := by omega
    rw [this, Int.zero_mul] at h2; omega
  · rw [eN]; exact h1
theorem lrmakes_ok : SpecOK Try.prog 5 lrmakes_sp lrmakes_sem := by
  refine spec_of_tree lrmakes_cxok Try.func5 (by kernel_rfl) (by kernel_rfl) lrmakes_walk rfl ?_
  intro cs hpre
  match cs, hpre with
  | [.i n, .i d, .i a, .i b], ⟨h1, h2, h3, h4⟩ =>
    have g1 : IsI n := h1
    have g2 : IsI d := h2
    have g3 : IsI a := h3
    have g4 : IsI b := h4
    unfold IsI at h1 h2 h3 h4
    refine ⟨rfl, IvsB.ok (by simp only [lrmakes_ivs, IvsB, Cv.int, and_true]; omega), ?_, ?_⟩
    · simp only [lrmakes_sem, lrmakes_sp, Fits]
    · simp only [lrmakes_sem, qnew_sem, qright_sem, r6right_sem, r6new_sem, qal_sem, rt, rtG, lrmakes_sp, lrmakes_tree, lrmakes_M39, qright_sem, lrmakes_M38, qnew_sem, lrmakes_M40, r6right_sem, lrmakes_M42, r6new_sem, lrmakes_M41, qal_sem, Tree.den, List.getElem?_cons_zero, List.getElem?_cons_succ, IE.den, BE.den, At.den, CA.den, Env.get, Cv.int, Cv.bool, List.cons_append, List.nil_append, List.map_cons, List.map_nil, bindRes, bindEq, Fits, SV.den, denL, place, placeL, eq_t, eq_f, lt_t, lt_f, le_t, le_f, beq_iff_eq, beq_eq_false_iff_ne, ne_eq, reduceCtorEq, b_dec, decide_eq_true_eq, decide_eq_false_iff_not, Bool.not_eq_false', Bool.or_eq_true, Bool.or_eq_false_iff, Bool.and_eq_false_iff, true_iff, false_iff, Bool.false_eq_true, Bool.not_eq_true', Bool.and_eq_true, Bool.not_true, Bool.not_false, List.cons.injEq, Cv.i.injEq, Cv.b.injEq, and_true, true_and, agg_inj, tup_inj, Value.int.injEq, Value.bool.injEq]
      simp only [g1, g2, g3, g4, if_true, if_false, true_and, and_true, false_and, and_false, true_or, or_true, false_or, or_false, true_iff, iff_true, false_iff, iff_false, not_true_eq_false, not_false_eq_true, true_implies, false_implies, implies_true, forall_const, decide_true, decide_false, reduceCtorEq]
      by_cases hd : d = 0
      · simp only [hd, if_true, if_false, true_and, and_true, false_and, and_false, true_or, or_true, false_or, or_false, true_iff, iff_true, false_iff, iff_false, not_true_eq_false, not_false_eq_true, true_implies, false_implies, implies_true, forall_const, decide_true, decide_false, reduceCtorEq]
        (repeat' (first | intro _ | refine And.intro ?_ ?_ | exact trivial)) <;> omega
      · have hD : 0 < absZ d := by unfold absZ; split <;> omega
        have hR := rt_right (N := if d < 0 then -n else n) hD
        by_cases hok : rtOK (if d < 0 then -n else n) (absZ d)
        · obtain ⟨o1, o2⟩ : rtOK (if d < 0 then -n else n) (absZ d) := hok
          have hok : rtOK (if d < 0 then -n else n) (absZ d) := ⟨o1, o2⟩
          simp only [hd, hok, if_true, if_false, true_and, and_true, false_and, and_false, true_or, or_true, false_or, or_false, true_iff, iff_true, false_iff, iff_false, not_true_eq_false, not_false_eq_true, true_implies, false_implies, implies_true, forall_const, decide_true, decide_false, reduceCtorEq]
          intro x hx _ _ y hy _ _ e he _ _ x' hx' _ _ y' hy' _ _ e' he' _ _
          subst hx hy
          refine ⟨fun _ => ⟨fun _ _ => ⟨⟨o1, o2⟩, hR⟩, fun h => by omega⟩, fun h => by omega⟩
        · simp only [hd, hok, if_true, if_false, true_and, and_true, false_and, and_false, true_or, or_true, false_or, or_false, true_iff, iff_true, false_iff, iff_false, not_true_eq_false, not_false_eq_true, true_implies, false_implies, implies_true, forall_const, decide_true, decide_false, reduceCtorEq]
          intro x hx _ _ y hy _ _ e he _ _ x' hx' _ _ y' hy' _ _ e' he' _ _
          refine ⟨fun _ => ⟨fun _ h => by omega, fun h => by omega⟩, fun h => by omega⟩
def lrdoes_sp : SpecSh := { args := [(.agg [(.int .i64 (.z 0)), (.int .i64 (.z 0))]), (.agg [(.int .i64 (.z 0)), (.int .i64 (.z 0))]), (.int .i64 (.z 0))], res := (.bool .f), sh := [.b] }
set_option maxRecDepth 100000 in
def lrdoes_tree : Tree :=
.call 46 [.i (some ((-9223372036854775808), 9223372036854775807)), .i (some ((-9223372036854775808), 9223372036854775807))] [.i (.v 0), .i (.v 1), .i (.v 2), .i (.v 3)] <|
.call 44 [.i (some ((-9223372036854775808), 9223372036854775807)), .i (some ((-9223372036854775808), 9223372036854775807)), .i (some ((-9223372036854775808), 9223372036854775807))] [.i (.v 0), .i (.v 1), .i (.v 2), .i (.v 3)] <|
.call 45 [.i (some ((-9223372036854775808), 9223372036854775807)), .i (some ((-9223372036854775808), 9223372036854775807)), .i (some ((-9223372036854775808), 9223372036854775807))] [.i (.v 0), .i (.v 1), .i (.v 2), .i (.v 3)] <|
.call 63 [.i (some ((-9223372036854775808), 9223372036854775807)), .i (some ((-9223372036854775808), 9223372036854775807)), .i (some ((-9223372036854775808), 9223372036854775807))] [.i (.v 0), .i (.v 1), .i (.v 4)] <|
.call 41 [.b] [] <|
.ite (.not (.v 16)) (.ret (.bool .f)) <|
.call 40 [.b] [.i (.v 0), .i (.v 1)] <|
.ite (.not (.v 17)) (.ite (.not (.cmp .eq (.v 15) (.z 1))) (.ret (.bool .f)) <|
.ite (.not (.and (.cmp .eq (.v 13) (.z 0)) (.cmp .eq (.v 14) (.z 0)))) (.ret (.bool .f)) <|
.call 40 [.b] [.i (.v 0), .i (.v 1)] <|
.ite (.not (.v 18)) (.ite (.cmp .eq (.v 6) (.z 1)) (.ite (.cmp .eq (.v 9) (.z 1)) (.ite (.cmp .eq (.v 12) (.z 1)) (.ite (.cmp .eq (.v 5) (.z 0)) (.ite (.and (.cmp .eq (.v 7) (.z 0)) (.cmp .eq (.v 8) (.z 0))) (.ret (.bool (.and (.cmp .eq (.v 10) (.z 0)) (.cmp .eq (.v 11) (.z 0))))) <|
.ret (.bool .f)) <|
.ret (.bool .f)) <|
.ret (.bool .f)) <|
.ret (.bool .f)) <|
.ret (.bool .f)) <|
.call 40 [.b] [.i (.v 2), .i (.v 3)] <|
.ite (.not (.v 19)) (.ite (.cmp .eq (.v 6) (.z 1)) (.ite (.cmp .eq (.v 9) (.z 1)) (.ite (.cmp .eq (.v 12) (.z 1)) (.ite (.cmp .eq (.v 5) (.z 0)) (.ite (.and (.cmp .eq (.v 7) (.z 0)) (.cmp .eq (.v 8) (.z 0))) (.ret (.bool (.and (.cmp .eq (.v 10) (.z 0)) (.cmp .eq (.v 11) (.z 0))))) <|
.ret (.bool .f)) <|
.ret (.bool .f)) <|
.ret (.bool .f)) <|
.ret (.bool .f)) <|
.ret (.bool .f)) <|
.call 66 [.i (some ((-9223372036854775808), 9223372036854775807)), .i (some ((-9223372036854775808), 9223372036854775807)), .i (some ((-9223372036854775808), 9223372036854775807))] [.i (.v 0), .i (.v 1), .i (.v 2), .i (.v 3)] <|
.call 67 [.i (some ((-9223372036854775808), 9223372036854775807)), .i (some ((-9223372036854775808), 9223372036854775807)), .i (some ((-9223372036854775808), 9223372036854775807))] [.i (.v 0), .i (.v 1), .i (.v 2), .i (.v 3)] <|
.ite (.cmp .eq (.v 6) (.z 0)) (.call 68 [.i (some ((-9223372036854775808), 9223372036854775807))] [.i (.v 0), .i (.v 1), .i (.v 2), .i (.v 3)] <|
.ite (.cmp .eq (.v 5) (.v 26)) (.ite (.and (.cmp .eq (.v 7) (.v 20)) (.cmp .eq (.v 8) (.v 21))) (.ite (.cmp .eq (.v 9) (.v 22)) (.ite (.and (.cmp .eq (.v 10) (.v 23)) (.cmp .eq (.v 11) (.v 24))) (.ret (.bool (.cmp .eq (.v 12) (.v 25)))) <|
.ret (.bool .f)) <|
.ret (.bool .f)) <|
.ret (.bool .f)) <|
.ret (.bool .f)) <|
.ret (.bool .f)) <|
.ite (.cmp .lt (.v 4) (.z 1)) (.ite (.not (.cmp .eq (.v 15) (.z 3))) (.ret (.bool .f)) <|
.ite (.not (.and (.cmp .eq (.v 13) (.z 0)) (.cmp .eq (.v 14) (.z 0)))) (.ret (.bool .f)) <|
.call 40 [.b] [.i (.v 0), .i (.v 1)] <|
.ite (.not (.v 18)) (.ite (.cmp .eq (.v 6) (.z 1)) (.ite (.cmp .eq (.v 9) (.z 1)) (.ite (.cmp .eq (.v 12) (.z 1)) (.ite (.cmp .eq (.v 5) (.z 0)) (.ite (.and (.cmp .eq (.v 7) (.z 0)) (.cmp .eq (.v 8) (.z 0))) (.ret (.bool (.and (.cmp .eq (.v 10) (.z 0)) (.cmp .eq (.v 11) (.z 0))))) <|
.ret (.bool .f)) <|
.ret (.bool .f)) <|
.ret (.bool .f)) <|
.ret (.bool .f)) <|
.ret (.bool .f)) <|
.call 40 [.b] [.i (.v 2), .i (.v 3)] <|
.ite (.not (.v 19)) (.ite (.cmp .eq (.v 6) (.z 1)) (.ite (.cmp .eq (.v 9) (.z 1)) (.ite (.cmp .eq (.v 12) (.z 1)) (.ite (.cmp .eq (.v 5) (.z 0)) (.ite (.and (.cmp .eq (.v 7) (.z 0)) (.cmp .eq (.v 8) (.z 0))) (.ret (.bool (.and (.cmp .eq (.v 10) (.z 0)) (.cmp .eq (.v 11) (.z 0))))) <|
.ret (.bool .f)) <|
.ret (.bool .f)) <|
.ret (.bool .f)) <|
.ret (.bool .f)) <|
.ret (.bool .f)) <|
.call 66 [.i (some ((-9223372036854775808), 9223372036854775807)), .i (some ((-9223372036854775808), 9223372036854775807)), .i (some ((-9223372036854775808), 9223372036854775807))] [.i (.v 0), .i (.v 1), .i (.v 2), .i (.v 3)] <|
.call 67 [.i (some ((-9223372036854775808), 9223372036854775807)), .i (some ((-9223372036854775808), 9223372036854775807)), .i (some ((-9223372036854775808), 9223372036854775807))] [.i (.v 0), .i (.v 1), .i (.v 2), .i (.v 3)] <|
.ite (.cmp .eq (.v 6) (.z 0)) (.call 68 [.i (some ((-9223372036854775808), 9223372036854775807))] [.i (.v 0), .i (.v 1), .i (.v 2), .i (.v 3)] <|
.ite (.cmp .eq (.v 5) (.v 26)) (.ite (.and (.cmp .eq (.v 7) (.v 20)) (.cmp .eq (.v 8) (.v 21))) (.ite (.cmp .eq (.v 9) (.v 22)) (.ite (.and (.cmp .eq (.v 10) (.v 23)) (.cmp .eq (.v 11) (.v 24))) (.ret (.bool (.cmp .eq (.v 12) (.v 25)))) <|
.ret (.bool .f)) <|
.ret (.bool .f)) <|
.ret (.bool .f)) <|
.ret (.bool .f)) <|
.ret (.bool .f)) <|
.call 65 [.i (some ((-9223372036854775808), 9223372036854775807)), .i (some ((-9223372036854775808), 9223372036854775807)), .i (some ((-9223372036854775808), 9223372036854775807))] [.i (.v 0), .i (.v 1), .i (.v 4)] <|
.ite (.not (.and (.cmp .eq (.v 13) (.v 18)) (.cmp .eq (.v 14) (.v 19)))) (.ret (.bool .f)) <|
.ite (.not (.cmp .eq (.v 15) (.v 20))) (.ret (.bool .f)) <|
.call 40 [.b] [.i (.v 0), .i (.v 1)] <|
.ite (.not (.v 21)) (.ite (.cmp .eq (.v 6) (.z 1)) (.ite (.cmp .eq (.v 9) (.z 1)) (.ite (.cmp .eq (.v 12) (.z 1)) (.ite (.cmp .eq (.v 5) (.z 0)) (.ite (.and (.cmp .eq (.v 7) (.z 0)) (.cmp .eq (.v 8) (.z 0))) (.ret (.bool (.and (.cmp .eq (.v 10) (.z 0)) (.cmp .eq (.v 11) (.z 0))))) <|
.ret (.bool .f)) <|
.ret (.bool .f)) <|
.ret (.bool .f)) <|
.ret (.bool .f)) <|
.ret (.bool .f)) <|
.call 40 [.b] [.i (.v 2), .i (.v 3)] <|
.ite (.not (.v 22)) (.ite (.cmp .eq (.v 6) (.z 1)) (.ite (.cmp .eq (.v 9) (.z 1)) (.ite (.cmp .eq (.v 12) (.z 1)) (.ite (.cmp .eq (.v 5) (.z 0)) (.ite (.and (.cmp .eq (.v 7) (.z 0)) (.cmp .eq (.v 8) (.z 0))) (.ret (.bool (.and (.cmp .eq (.v 10) (.z 0)) (.cmp .eq (.v 11) (.z 0))))) <|
.ret (.bool .f)) <|
.ret (.bool .f)) <|
.ret (.bool .f)) <|
.ret (.bool .f)) <|
.ret (.bool .f)) <|
.call 66 [.i (some ((-9223372036854775808), 9223372036854775807)), .i (some ((-9223372036854775808), 9223372036854775807)), .i (some ((-9223372036854775808), 9223372036854775807))] [.i (.v 0), .i (.v 1), .i (.v 2), .i (.v 3)] <|
.call 67 [.i (some ((-9223372036854775808), 9223372036854775807)), .i (some ((-9223372036854775808), 9223372036854775807)), .i (some ((-9223372036854775808), 9223372036854775807))] [.i (.v 0), .i (.v 1), .i (.v 2), .i (.v 3)] <|
.ite (.cmp .eq (.v 6) (.z 0)) (.call 68 [.i (some ((-9223372036854775808), 9223372036854775807))] [.i (.v 0), .i (.v 1), .i (.v 2), .i (.v 3)] <|
.ite (.cmp .eq (.v 5) (.v 29)) (.ite (.and (.cmp .eq (.v 7) (.v 23)) (.cmp .eq (.v 8) (.v 24))) (.ite (.cmp .eq (.v 9) (.v 25)) (.ite (.and (.cmp .eq (.v 10) (.v 26)) (.cmp .eq (.v 11) (.v 27))) (.ret (.bool (.cmp .eq (.v 12) (.v 28)))) <|
.ret (.bool .f)) <|
.ret (.bool .f)) <|
.ret (.bool .f)) <|
.ret (.bool .f)) <|
.ret (.bool .f)
noncomputable def lrdoes_cx : Ctx := { tys := tys, fns := fns, sps := [(39, qright_sp), (46, qcmp_sp), (44, qadd_sp), (45, qmul_sp), (63, qenc_sp), (40, r6right_sp), (68, r6cmp_sp), (66, r6add_sp), (67, r6mul_sp), (65, r6enc_sp), (41, qal_sp)], anns := [], trys := [] }
def lrdoes_ivs : List (Option (Int × Int)) := [some ((-9223372036854775808), 9223372036854775807), some ((-9223372036854775808), 9223372036854775807), some ((-9223372036854775808), 9223372036854775807), some ((-9223372036854775808), 9223372036854775807), some ((-9223372036854775808), 9223372036854775807)]
set_option maxRecDepth 100000 in
theorem lrdoes_walk : runFn lrdoes_cx 3000 15 Try.f15 lrdoes_sp.args lrdoes_ivs = lrdoes_tree := by kernel_rfl
noncomputable def lrdoes_M : Nat → SpecSem
  | 39 => qright_sem
  | 46 => qcmp_sem
  | 44 => qadd_sem
  | 45 => qmul_sem
  | 63 => qenc_sem
  | 40 => r6right_sem
  | 68 => r6cmp_sem
  | 66 => r6add_sem
  | 67 => r6mul_sem
  | 65 => r6enc_sem
  | 41 => qal_sem
  | _ => noSem
theorem lrdoes_M39 : lrdoes_M 39 = qright_sem := rfl
theorem lrdoes_M46 : lrdoes_M 46 = qcmp_sem := rfl
theorem lrdoes_M44 : lrdoes_M 44 = qadd_sem := rfl
theorem lrdoes_M45 : lrdoes_M 45 = qmul_sem := rfl
theorem lrdoes_M63 : lrdoes_M 63 = qenc_sem := rfl
theorem lrdoes_M40 : lrdoes_M 40 = r6right_sem := rfl
theorem lrdoes_M68 : lrdoes_M 68 = r6cmp_sem := rfl
theorem lrdoes_M66 : lrdoes_M 66 = r6add_sem := rfl
theorem lrdoes_M67 : lrdoes_M 67 = r6mul_sem := rfl
theorem lrdoes_M65 : lrdoes_M 65 = r6enc_sem := rfl
theorem lrdoes_M41 : lrdoes_M 41 = qal_sem := rfl
theorem lrdoes_cxok : CxOK Try.prog lrdoes_cx lrdoes_M := ⟨tysOK, fnsOK, spCons qright_ok <| spCons qcmp_ok <| spCons qadd_ok <| spCons qmul_ok <| spCons qenc_ok <| spCons r6right_ok <| spCons r6cmp_ok <| spCons r6add_ok <| spCons r6mul_ok <| spCons r6enc_ok <| spCons qal_ok <| fun _ _ h => spNil h, mixedOK, fun _ _ h => trNil h⟩

def lrdoes_sem : SpecSem := { pre := fun cs => match cs with | [.i a, .i b, .i c, .i d, .i s] => IsI a ∧ IsI b ∧ IsI c ∧ IsI d ∧ IsI s | _ => False, out := fun cs => match cs with | [.i a, .i b, .i c, .i d, .i s] => [.b true] | _ => [] }
theorem lrdoes_ok : SpecOK Try.prog 15 lrdoes_sp lrdoes_sem := by
  refine spec_of_tree lrdoes_cxok Try.func15 (by kernel_rfl) (by kernel_rfl) lrdoes_walk rfl ?_
  intro cs hpre
  match cs, hpre with
  | [.i a, .i b, .i c, .i d, .i s], ⟨h1, h2, h3, h4, h5⟩ =>
    have g1 : IsI a := h1
    have g2 : IsI b := h2
    have g3 : IsI c := h3
    have g4 : IsI d := h4
    have g5 : IsI s := h5
    unfold IsI at h1 h2 h3 h4 h5
    refine ⟨rfl, IvsB.ok (by simp only [lrdoes_ivs, IvsB, Cv.int, and_true]; omega), ?_, ?_⟩
    · simp only [lrdoes_sem, lrdoes_sp, Fits]
    · simp (config := { maxSteps := 4000000 }) only [lrdoes_sem, qright_sem, qcmp_sem, qadd_sem, qmul_sem, qenc_sem, r6right_sem, r6cmp_sem, r6add_sem, r6mul_sem, r6enc_sem, qal_sem, rt, rtG, lrdoes_sp, lrdoes_tree, lrdoes_M39, qright_sem, lrdoes_M46, qcmp_sem, lrdoes_M44, qadd_sem, lrdoes_M45, qmul_sem, lrdoes_M63, qenc_sem, lrdoes_M40, r6right_sem, lrdoes_M68, r6cmp_sem, lrdoes_M66, r6add_sem, lrdoes_M67, r6mul_sem, lrdoes_M65, r6enc_sem, lrdoes_M41, qal_sem, Tree.den, List.getElem?_cons_zero, List.getElem?_cons_succ, IE.den, BE.den, At.den, CA.den, Env.get, Cv.int, Cv.bool, List.cons_append, List.nil_append, List.map_cons, List.map_nil, bindRes, bindEq, Fits, SV.den, denL, place, placeL, eq_t, eq_f, lt_t, lt_f, le_t, le_f, beq_iff_eq, beq_eq_false_iff_ne, ne_eq, reduceCtorEq, b_dec, decide_eq_true_eq, decide_eq_false_iff_not, Bool.not_eq_false', Bool.or_eq_true, Bool.or_eq_false_iff, Bool.and_eq_false_iff, true_iff, false_iff, Bool.false_eq_true, Bool.not_eq_true', Bool.and_eq_true, Bool.not_true, Bool.not_false, List.cons.injEq, Cv.i.injEq, Cv.b.injEq, and_true, true_and, agg_inj, tup_inj, Value.int.injEq, Value.bool.injEq]
      simp only [g1, g2, g3, g4, g5, if_true, if_false, true_and, and_true, false_and, and_false, true_or, or_true, false_or, or_false, true_iff, iff_true, false_iff, iff_false, not_true_eq_false, not_false_eq_true, true_implies, false_implies, implies_true, forall_const, decide_true, decide_false, reduceCtorEq]
      by_cases hR1 : rtR a b
      · have hb : 1 ≤ b := hR1.1
        by_cases hs : 1 ≤ s
        · by_cases hR2 : rtR c d
          · have hd : 1 ≤ d := hR2.1
            simp only [hR1, hR2, hs, hb, hd, if_true, if_false, true_and, and_true, false_and, and_false, true_or, or_true, false_or, or_false, true_iff, iff_true, false_iff, iff_false, not_true_eq_false, not_false_eq_true, true_implies, false_implies, implies_true, forall_const, decide_true, decide_false, reduceCtorEq]
            generalize cmpZ (a * d) (c * b) = s0
            generalize (if rtOK (a * d + c * b) (b * d) then rtN (a * d + c * b) (b * d) else 0) = s1
            generalize (if rtOK (a * d + c * b) (b * d) then rtD (a * d + c * b) (b * d) else 0) = s2
            generalize (if rtOK (a * d + c * b) (b * d) then (0 : Int) else 5) = s3
            generalize (if rtOK (a * c) (b * d) then rtN (a * c) (b * d) else 0) = s4
            generalize (if rtOK (a * c) (b * d) then rtD (a * c) (b * d) else 0) = s5
            generalize (if rtOK (a * c) (b * d) then (0 : Int) else 5) = s6
            generalize (if IsI (a * s / b) ∧ IsI (-(-(a * s) / b)) then a * s / b else 0) = s7
            generalize (if IsI (a * s / b) ∧ IsI (-(-(a * s) / b)) then -(-(a * s) / b) else 0) = s8
            generalize (if IsI (a * s / b) ∧ IsI (-(-(a * s) / b)) then (0 : Int) else 5) = s9
            (repeat' (first | intro _ | refine And.intro ?_ ?_ | exact trivial)) <;> omega
          · simp only [hR1, hR2, hs, hb, if_true, if_false, true_and, and_true, false_and, and_false, true_or, or_true, false_or, or_false, true_iff, iff_true, false_iff, iff_false, not_true_eq_false, not_false_eq_true, true_implies, false_implies, implies_true, forall_const, decide_true, decide_false, reduceCtorEq]
            generalize (if IsI (a * s / b) ∧ IsI (-(-(a * s) / b)) then a * s / b else 0) = s7
            generalize (if IsI (a * s / b) ∧ IsI (-(-(a * s) / b)) then -(-(a * s) / b) else 0) = s8
            generalize (if IsI (a * s / b) ∧ IsI (-(-(a * s) / b)) then (0 : Int) else 5) = s9
            (repeat' (first | intro _ | refine And.intro ?_ ?_ | exact trivial)) <;> omega
        · have hs' : s < 1 := by omega
          by_cases hR2 : rtR c d
          · have hd : 1 ≤ d := hR2.1
            simp only [hR1, hR2, hs, hs', hb, hd, if_true, if_false, true_and, and_true, false_and, and_false, true_or, or_true, false_or, or_false, true_iff, iff_true, false_iff, iff_false, not_true_eq_false, not_false_eq_true, true_implies, false_implies, implies_true, forall_const, decide_true, decide_false, reduceCtorEq]
            generalize cmpZ (a * d) (c * b) = s0
            generalize (if rtOK (a * d + c * b) (b * d) then rtN (a * d + c * b) (b * d) else 0) = s1
            generalize (if rtOK (a * d + c * b) (b * d) then rtD (a * d + c * b) (b * d) else 0) = s2
            generalize (if rtOK (a * d + c * b) (b * d) then (0 : Int) else 5) = s3
            generalize (if rtOK (a * c) (b * d) then rtN (a * c) (b * d) else 0) = s4
            generalize (if rtOK (a * c) (b * d) then rtD (a * c) (b * d) else 0) = s5
            generalize (if rtOK (a * c) (b * d) then (0 : Int) else 5) = s6
            (repeat' (first | intro _ | refine And.intro ?_ ?_ | exact trivial)) <;> omega
          · simp only [hR1, hR2, hs, hs', hb, if_true, if_false, true_and, and_true, false_and, and_false, true_or, or_true, false_or, or_false, true_iff, iff_true, false_iff, iff_false, not_true_eq_false, not_false_eq_true, true_implies, false_implies, implies_true, forall_const, decide_true, decide_false, reduceCtorEq]
            (repeat' (first | intro _ | refine And.intro ?_ ?_ | exact trivial)) <;> omega
      · simp only [hR1, if_true, if_false, true_and, and_true, false_and, and_false, true_or, or_true, false_or, or_false, true_iff, iff_true, false_iff, iff_false, not_true_eq_false, not_false_eq_true, true_implies, false_implies, implies_true, forall_const, decide_true, decide_false, reduceCtorEq]
        (repeat' (first | intro _ | refine And.intro ?_ ?_ | exact trivial)) <;> omega
end Go.Proofs.Ytlhmhcjpdpakkaa.X
