/-
  FixRounds and FixTurns tell true, for every input.
-/
import Derived.Test.YtbmfkdammaodpaaSxFixLaw
namespace Go.Proofs.Ytbmfkdammaodpaa.X
open Go Go.SX Go.RowKit
set_option linter.unusedVariables false
set_option linter.unusedSimpArgs false



theorem eq_beq (a b c d : Int) : (Cmp.eq.den a b == Cmp.eq.den c d) = decide (a = b ↔ c = d) := by
  by_cases h1 : a = b <;> by_cases h2 : c = d <;> simp [Cmp.den, h1, h2]
theorem eq_eq {a b c d : Int} : (Cmp.eq.den a b = Cmp.eq.den c d) ↔ (a = b ↔ c = d) := by
  by_cases h1 : a = b <;> by_cases h2 : c = d <;> simp [Cmp.den, h1, h2]
/-- all three roundings, by what is left -/
theorem md_three {a b c : Int} (hc : c ≠ 0) : ∃ q r C : Int, (0 ≤ r ∧ r < C) ∧ mdZ a b c 0 = q ∧ mdZ a b c 1 = (if r = 0 then q else q + 1) ∧ (mdZ a b c 2 = q ∨ r ≠ 0 ∧ mdZ a b c 2 = q + 1) ∧ q * c = (if c < 0 then a * b + r else a * b - r) := by
  have hC : 0 < absZ c := by unfold absZ; split <;> omega
  have hcn : c < 0 → c = -(absZ c) := fun h => by unfold absZ; rw [if_pos h]; omega
  have hcp : ¬ c < 0 → c = absZ c := fun h => by unfold absZ; rw [if_neg h]
  obtain ⟨T, hT⟩ : ∃ T, (if c < 0 then -(a * b) else a * b) = T := ⟨_, rfl⟩
  unfold mdZ
  rw [hT]
  generalize absZ c = C at *
  refine ⟨T / C, T % C, C, ⟨Int.emod_nonneg _ (by omega), Int.emod_lt_of_pos _ hC⟩, ?_, ?_, ?_, ?_⟩
  · rw [roundZ_pos hC, if_pos rfl]
  · rw [roundZ_pos hC, if_neg (by omega), if_pos rfl]
  · rw [roundZ_pos hC, if_neg (by omega), if_neg (by omega)]
    split
    · rename_i h
      right
      refine ⟨fun h0 => ?_, rfl⟩
      rw [h0] at h; omega
    · exact .inl rfl
  · have e := Int.emod_add_mul_ediv T C
    have e2 : C * (T / C) = T / C * C := Int.mul_comm _ _
    by_cases hs : c < 0
    · have ec := hcn hs
      rw [if_pos hs] at hT
      have e3 : T / C * c = -(T / C * C) := by rw [ec, Int.mul_neg]
      rw [if_pos hs, e3]
      omega
    · have ec := hcp hs
      rw [if_neg hs] at hT
      have e3 : T / C * c = T / C * C := by rw [ec]
      rw [if_neg hs, e3]
      omega
def lfrounds_sp : SpecSh := { args := [(.int .i64 (.z 0)), (.int .i64 (.z 0)), (.int .i64 (.z 0))], res := (.bool .f), sh := [.b] }
set_option maxRecDepth 100000 in
def lfrounds_tree : Tree :=
.call 34 [.i (some ((-9223372036854775808), 9223372036854775807)), .i (some ((-9223372036854775808), 9223372036854775807))] [.i (.v 0), .i (.v 1), .i (.v 2), .i (.z 0)] <|
.call 34 [.i (some ((-9223372036854775808), 9223372036854775807)), .i (some ((-9223372036854775808), 9223372036854775807))] [.i (.v 0), .i (.v 1), .i (.v 2), .i (.z 1)] <|
.call 34 [.i (some ((-9223372036854775808), 9223372036854775807)), .i (some ((-9223372036854775808), 9223372036854775807))] [.i (.v 0), .i (.v 1), .i (.v 2), .i (.z 2)] <|
.call 35 [.b] [] <|
.ite (.not (.v 9)) (.ret (.bool .f)) <|
.ite (.not (.cmp .eq (.v 4) (.z 0))) (.ite (.cmp .eq (.v 3) (.z 0)) (.ite (.cmp .eq (.v 6) (.z 0)) (.ite (.not (.cmp .eq (.v 8) (.z 0))) (.ret (.bool .t)) <|
.ret (.bool (.cmp .eq (.v 7) (.v 5)))) <|
.ite (.cmp .eq (.v 5) (.z 0)) (.ite (.not (.cmp .eq (.v 8) (.z 0))) (.ret (.bool .t)) <|
.ret (.bool .f)) <|
.ret (.bool .f)) <|
.ret (.bool .f)) <|
.ite (.not (.cmp .eq (.v 6) (.z 0))) (.ite (.cmp .eq (.v 5) (.z 0)) (.ite (.not (.cmp .eq (.v 8) (.z 0))) (.ret (.bool .t)) <|
.ite (.cmp .eq (.v 7) (.v 3)) (.ret (.bool .t)) <|
.ret (.bool .f)) <|
.ret (.bool .f)) <|
.ite (.not (.cmp .eq (.v 8) (.z 0))) (.ret (.bool .f)) <|
.ite (.cmp .lt (.v 5) (.v 3)) (.ret (.bool .f)) <|
.ite (.cmp .lt (.v 3) (.v 5)) (.lett (.sub (.v 5) (.z 1)) <|
.ite (.not (.cmp .eq (.v 10) (.v 3))) (.ret (.bool .f)) <|
.ite (.not (.cmp .eq (.v 7) (.v 3))) (.ite (.not (.cmp .eq (.v 7) (.v 5))) (.ret (.bool .f)) <|
.call 37 [.i (some ((-9223372036854775808), 9223372036854775807)), .i (some ((-9223372036854775808), 9223372036854775807))] [.i (.v 0), .i (.v 1)] <|
.call 37 [.i (some ((-9223372036854775808), 9223372036854775807)), .i (some ((-9223372036854775808), 9223372036854775807))] [.i (.v 3), .i (.v 2)] <|
.ite (.not (.cmp .eq (.v 12) (.z 0))) (.ret (.bool .t)) <|
.ite (.not (.cmp .eq (.v 14) (.z 0))) (.ret (.bool .t)) <|
.ret (.bool (.eqv (.cmp .eq (.v 5) (.v 3)) (.cmp .eq (.v 11) (.v 13))))) <|
.call 37 [.i (some ((-9223372036854775808), 9223372036854775807)), .i (some ((-9223372036854775808), 9223372036854775807))] [.i (.v 0), .i (.v 1)] <|
.call 37 [.i (some ((-9223372036854775808), 9223372036854775807)), .i (some ((-9223372036854775808), 9223372036854775807))] [.i (.v 3), .i (.v 2)] <|
.ite (.not (.cmp .eq (.v 12) (.z 0))) (.ret (.bool .t)) <|
.ite (.not (.cmp .eq (.v 14) (.z 0))) (.ret (.bool .t)) <|
.ret (.bool (.eqv (.cmp .eq (.v 5) (.v 3)) (.cmp .eq (.v 11) (.v 13))))) <|
.ite (.not (.cmp .eq (.v 7) (.v 3))) (.ite (.not (.cmp .eq (.v 7) (.v 5))) (.ret (.bool .f)) <|
.call 37 [.i (some ((-9223372036854775808), 9223372036854775807)), .i (some ((-9223372036854775808), 9223372036854775807))] [.i (.v 0), .i (.v 1)] <|
.call 37 [.i (some ((-9223372036854775808), 9223372036854775807)), .i (some ((-9223372036854775808), 9223372036854775807))] [.i (.v 3), .i (.v 2)] <|
.ite (.not (.cmp .eq (.v 11) (.z 0))) (.ret (.bool .t)) <|
.ite (.not (.cmp .eq (.v 13) (.z 0))) (.ret (.bool .t)) <|
.ret (.bool (.eqv (.cmp .eq (.v 5) (.v 3)) (.cmp .eq (.v 10) (.v 12))))) <|
.call 37 [.i (some ((-9223372036854775808), 9223372036854775807)), .i (some ((-9223372036854775808), 9223372036854775807))] [.i (.v 0), .i (.v 1)] <|
.call 37 [.i (some ((-9223372036854775808), 9223372036854775807)), .i (some ((-9223372036854775808), 9223372036854775807))] [.i (.v 3), .i (.v 2)] <|
.ite (.not (.cmp .eq (.v 11) (.z 0))) (.ret (.bool .t)) <|
.ite (.not (.cmp .eq (.v 13) (.z 0))) (.ret (.bool .t)) <|
.ret (.bool (.eqv (.cmp .eq (.v 5) (.v 3)) (.cmp .eq (.v 10) (.v 12))))
noncomputable def lfrounds_cx : Ctx := { tys := tys, fns := fns, sps := [(37, fmul_sp), (34, fmd_sp), (35, fal_sp)], anns := [], trys := [] }
def lfrounds_ivs : List (Option (Int × Int)) := [some ((-9223372036854775808), 9223372036854775807), some ((-9223372036854775808), 9223372036854775807), some ((-9223372036854775808), 9223372036854775807)]
set_option maxRecDepth 100000 in
theorem lfrounds_walk : runFn lfrounds_cx 3000 12 Try.f12 lfrounds_sp.args lfrounds_ivs = lfrounds_tree := by kernel_rfl
noncomputable def lfrounds_M : Nat → SpecSem
  | 37 => fmul_sem
  | 34 => fmd_sem
  | 35 => fal_sem
  | _ => noSem
theorem lfrounds_M37 : lfrounds_M 37 = fmul_sem := rfl
theorem lfrounds_M34 : lfrounds_M 34 = fmd_sem := rfl
theorem lfrounds_M35 : lfrounds_M 35 = fal_sem := rfl
theorem lfrounds_cxok : CxOK Try.prog lfrounds_cx lfrounds_M := ⟨tysOK, fnsOK, spCons fmul_ok <| spCons fmd_ok <| spCons fal_ok <| fun _ _ h => spNil h, mixedOK, fun _ _ h => trNil h⟩

def lfrounds_sem : SpecSem := { pre := fun cs => match cs with | [.i a, .i b, .i c] => IsI a ∧ IsI b ∧ IsI c | _ => False, out := fun cs => match cs with | [.i a, .i b, .i c] => [.b true] | _ => [] }
set_option maxHeartbeats 4000000 in
theorem lfrounds_ok : SpecOK Try.prog 12 lfrounds_sp lfrounds_sem := by
  refine spec_of_tree lfrounds_cxok Try.func12 (by kernel_rfl) (by kernel_rfl) lfrounds_walk rfl ?_
  intro cs hpre
  match cs, hpre with
  | [.i a, .i b, .i c], ⟨h1, h2, h3⟩ =>
    have g1 : IsI a := h1
    have g2 : IsI b := h2
    have g3 : IsI c := h3
    unfold IsI at h1 h2 h3
    refine ⟨rfl, IvsB.ok (by simp only [lfrounds_ivs, IvsB, Cv.int, and_true]; omega), ?_, ?_⟩
    · simp only [lfrounds_sem, lfrounds_sp, Fits]
    · have i0 : IsI 0 := by decide
      have i1 : IsI 1 := by decide
      have i2 : IsI 2 := by decide
      simp only [lfrounds_sem, fmd_sem, fal_sem, tell, lfrounds_sp, eq_beq, eq_eq, lfrounds_tree, lfrounds_M37, fmul_sem, lfrounds_M34, fmd_sem, lfrounds_M35, fal_sem, Tree.den, List.getElem?_cons_zero, List.getElem?_cons_succ, IE.den, BE.den, At.den, CA.den, Env.get, Cv.int, Cv.bool, List.cons_append, List.nil_append, List.map_cons, List.map_nil, bindRes, bindEq, Fits, SV.den, denL, place, placeL, eq_t, eq_f, lt_t, lt_f, le_t, le_f, beq_iff_eq, beq_eq_false_iff_ne, ne_eq, reduceCtorEq, b_dec, decide_eq_true_eq, decide_eq_false_iff_not, Bool.not_eq_false', Bool.or_eq_true, Bool.or_eq_false_iff, Bool.and_eq_false_iff, true_iff, false_iff, Bool.false_eq_true, Bool.not_eq_true', Bool.and_eq_true, Bool.not_true, Bool.not_false, List.cons.injEq, Cv.i.injEq, Cv.b.injEq, and_true, true_and, agg_inj, tup_inj, Value.int.injEq, Value.bool.injEq]
      simp only [g1, g2, g3, i0, i1, i2, if_true, if_false, true_and, and_true, false_and, and_false, true_or, or_true, false_or, or_false, true_iff, iff_true, false_iff, iff_false, not_true_eq_false, not_false_eq_true, true_implies, false_implies, implies_true, forall_const, decide_true, decide_false, reduceCtorEq]
      by_cases hc : c = 0
      · have z : ∀ m : Int, 0 ≤ m ∧ m ≤ 2 → mdV a b c m = 0 ∧ mdE a b c m = 4 := fun m h => by
          unfold mdV mdE; rw [if_neg (fun h => h.2.1 hc), if_pos (by omega), if_pos hc]; exact ⟨rfl, rfl⟩
        simp only [z 0 (by omega), z 1 (by omega), z 2 (by omega), if_true, if_false, true_and, and_true, false_and, and_false, true_or, or_true, false_or, or_false, true_iff, iff_true, false_iff, iff_false, not_true_eq_false, not_false_eq_true, true_implies, false_implies, implies_true, forall_const, decide_true, decide_false, reduceCtorEq]
        (repeat' (first | intro _ | refine And.intro ?_ ?_ | exact trivial)) <;> omega
      · obtain ⟨q, r, C, ⟨r0, r1⟩, e0, e1, e2, e3⟩ := md_three (a := a) (b := b) hc
        obtain ⟨v0, w0⟩ := md_tell (a := a) (b := b) (c := c) (m := 0) hc (by omega)
        obtain ⟨v1, w1⟩ := md_tell (a := a) (b := b) (c := c) (m := 1) hc (by omega)
        obtain ⟨v2, w2⟩ := md_tell (a := a) (b := b) (c := c) (m := 2) hc (by omega)
        rw [e0] at v0 w0
        rw [e1] at v1 w1
        generalize mdZ a b c 2 = N at *
        have hvc : IsI q → mdV a b c 0 * c = (if c < 0 then a * b + r else a * b - r) := fun h => by
          rw [v0, if_pos h]; exact e3
        clear e0 e1 e3
        intro x0 hx0 _ _ y0 hy0 _ _ x1 hx1 _ _ y1 hy1 _ _ x2 hx2 _ _ y2 hy2 _ _
        rw [← hx0] at hvc
        rw [v0] at hx0
        rw [w0] at hy0
        rw [v1] at hx1
        rw [w1] at hy1
        rw [v2] at hx2
        rw [w2] at hy2
        clear v0 w0 v1 w1 v2 w2
        generalize x0 * c = XC at *
        generalize a * b = P at *
        replace hvc : IsI q → XC = P + r ∧ c < 0 ∨ XC = P - r := fun h => by have := hvc h; split at this <;> omega
        by_cases hr : r = 0
        · simp only [hr, if_true] at hx1 hy1
          by_cases i3 : IsI q <;> by_cases i5 : IsI N <;> simp only [i3, i5, if_true, if_false, true_implies, false_implies] at hx0 hy0 hx1 hy1 hx2 hy2 hvc <;> by_cases i6 : IsI P <;> by_cases i7 : IsI XC <;> simp only [i6, i7, if_true, if_false, true_and, and_true, false_and, and_false, true_or, or_true, false_or, or_false, true_iff, iff_true, false_iff, iff_false, not_true_eq_false, not_false_eq_true, true_implies, false_implies, implies_true, forall_const, decide_true, decide_false, reduceCtorEq] <;> simp only [IsI] at *
          all_goals (repeat' (first | intro _ | refine And.intro ?_ ?_ | exact trivial)) <;> omega
        · simp only [hr, if_false] at hx1 hy1
          by_cases i3 : IsI q <;> by_cases i4 : IsI (q + 1) <;> by_cases i5 : IsI N <;> simp only [i3, i4, i5, if_true, if_false, true_implies, false_implies] at hx0 hy0 hx1 hy1 hx2 hy2 hvc <;> by_cases i6 : IsI P <;> by_cases i7 : IsI XC <;> simp only [i6, i7, if_true, if_false, true_and, and_true, false_and, and_false, true_or, or_true, false_or, or_false, true_iff, iff_true, false_iff, iff_false, not_true_eq_false, not_false_eq_true, true_implies, false_implies, implies_true, forall_const, decide_true, decide_false, reduceCtorEq] <;> simp only [IsI] at *
          all_goals (repeat' (first | intro _ | refine And.intro ?_ ?_ | exact trivial)) <;> omega
theorem md_neg {a b c : Int} : mdZ (-a) b c 1 = -(mdZ a b c 0) := by
  unfold mdZ roundZ
  rw [Int.neg_mul, if_neg (by omega), if_pos rfl, if_pos rfl]
  by_cases hs : c < 0
  · simp only [hs, if_true, Int.neg_neg]
  · simp only [hs, if_false, Int.neg_neg]
theorem md_same {b c : Int} (hc : c ≠ 0) : mdZ b c c 2 = b := by
  have hC : 0 < absZ c := by unfold absZ; split <;> omega
  have e : (if c < 0 then -(b * c) else b * c) = b * absZ c := by
    unfold absZ; split
    · rw [Int.mul_neg]
    · rfl
  unfold mdZ
  rw [e, roundZ_pos hC, if_neg (by omega), if_neg (by omega), Int.mul_ediv_cancel _ (by omega), Int.mul_emod_left, if_neg (by omega)]
def lfturns_sp : SpecSh := { args := [(.int .i64 (.z 0)), (.int .i64 (.z 0)), (.int .i64 (.z 0))], res := (.bool .f), sh := [.b] }
set_option maxRecDepth 100000 in
def lfturns_tree : Tree :=
.ite (.cmp .eq (.v 0) (.z (-9223372036854775808))) (.call 35 [.b] [] <|
.ret (.bool (.v 3))) <|
.ite (.cmp .eq (.v 2) (.z 0)) (.call 35 [.b] [] <|
.ret (.bool (.v 3))) <|
.call 34 [.i (some ((-9223372036854775808), 9223372036854775807)), .i (some ((-9223372036854775808), 9223372036854775807))] [.i (.v 0), .i (.v 1), .i (.v 2), .i (.z 0)] <|
.lett (.sub (.z 0) (.v 0)) <|
.call 34 [.i (some ((-9223372036854775808), 9223372036854775807)), .i (some ((-9223372036854775808), 9223372036854775807))] [.i (.v 5), .i (.v 1), .i (.v 2), .i (.z 1)] <|
.call 34 [.i (some ((-9223372036854775808), 9223372036854775807)), .i (some ((-9223372036854775808), 9223372036854775807))] [.i (.v 1), .i (.v 0), .i (.v 2), .i (.z 0)] <|
.call 34 [.i (some ((-9223372036854775808), 9223372036854775807)), .i (some ((-9223372036854775808), 9223372036854775807))] [.i (.v 1), .i (.v 2), .i (.v 2), .i (.z 2)] <|
.ite (.cmp .eq (.v 4) (.z 0)) (.ite (.cmp .eq (.v 7) (.z 0)) (.lett (.subw .i64 (.z 0) (.v 6)) <|
.ite (.not (.cmp .eq (.v 3) (.v 12))) (.ret (.bool .f)) <|
.ite (.not (.cmp .eq (.v 3) (.v 8))) (.ret (.bool .f)) <|
.ite (.not (.cmp .eq (.v 4) (.v 9))) (.ret (.bool .f)) <|
.ite (.not (.cmp .eq (.v 11) (.z 0))) (.ret (.bool .f)) <|
.ite (.not (.cmp .eq (.v 10) (.v 1))) (.ret (.bool .f)) <|
.call 35 [.b] [] <|
.ite (.not (.v 13)) (.ret (.bool .f)) <|
.ret (.bool .t)) <|
.ite (.not (.cmp .eq (.v 3) (.v 8))) (.ret (.bool .f)) <|
.ite (.not (.cmp .eq (.v 4) (.v 9))) (.ret (.bool .f)) <|
.ite (.not (.cmp .eq (.v 11) (.z 0))) (.ret (.bool .f)) <|
.ite (.not (.cmp .eq (.v 10) (.v 1))) (.ret (.bool .f)) <|
.call 35 [.b] [] <|
.ite (.not (.v 12)) (.ret (.bool .f)) <|
.ite (.cmp .eq (.v 3) (.z (-9223372036854775808))) (.ret (.bool .t)) <|
.ret (.bool .f)) <|
.ite (.not (.cmp .eq (.v 3) (.v 8))) (.ret (.bool .f)) <|
.ite (.not (.cmp .eq (.v 4) (.v 9))) (.ret (.bool .f)) <|
.ite (.not (.cmp .eq (.v 11) (.z 0))) (.ret (.bool .f)) <|
.ite (.not (.cmp .eq (.v 10) (.v 1))) (.ret (.bool .f)) <|
.call 35 [.b] [] <|
.ite (.not (.v 12)) (.ret (.bool .f)) <|
.ite (.eqv (.cmp .eq (.v 4) (.z 0)) (.cmp .eq (.v 7) (.z 0))) (.ret (.bool .t)) <|
.ite (.cmp .eq (.v 7) (.z 0)) (.ret (.bool (.cmp .eq (.v 6) (.z (-9223372036854775808))))) <|
.ret (.bool .f)
noncomputable def lfturns_cx : Ctx := { tys := tys, fns := fns, sps := [(34, fmd_sp), (35, fal_sp)], anns := [], trys := [] }
def lfturns_ivs : List (Option (Int × Int)) := [some ((-9223372036854775808), 9223372036854775807), some ((-9223372036854775808), 9223372036854775807), some ((-9223372036854775808), 9223372036854775807)]
set_option maxRecDepth 100000 in
theorem lfturns_walk : runFn lfturns_cx 3000 11 Try.f11 lfturns_sp.args lfturns_ivs = lfturns_tree := by kernel_rfl
noncomputable def lfturns_M : Nat → SpecSem
  | 34 => fmd_sem
  | 35 => fal_sem
  | _ => noSem
theorem lfturns_M34 : lfturns_M 34 = fmd_sem := rfl
theorem lfturns_M35 : lfturns_M 35 = fal_sem := rfl
theorem lfturns_cxok : CxOK Try.prog lfturns_cx lfturns_M := ⟨tysOK, fnsOK, spCons fmd_ok <| spCons fal_ok <| fun _ _ h => spNil h, mixedOK, fun _ _ h => trNil h⟩

def lfturns_sem : SpecSem := { pre := lfrounds_sem.pre, out := fun cs => match cs with | [.i a, .i b, .i c] => [.b true] | _ => [] }
theorem lfturns_ok : SpecOK Try.prog 11 lfturns_sp lfturns_sem := by
  refine spec_of_tree lfturns_cxok Try.func11 (by kernel_rfl) (by kernel_rfl) lfturns_walk rfl ?_
  intro cs hpre
  match cs, hpre with
  | [.i a, .i b, .i c], ⟨h1, h2, h3⟩ =>
    have g1 : IsI a := h1
    have g2 : IsI b := h2
    have g3 : IsI c := h3
    unfold IsI at h1 h2 h3
    refine ⟨rfl, IvsB.ok (by simp only [lfturns_ivs, IvsB, Cv.int, and_true]; omega), ?_, ?_⟩
    · simp only [lfturns_sem, lfturns_sp, Fits]
    · have i0 : IsI 0 := by decide
      have i1 : IsI 1 := by decide
      have i2 : IsI 2 := by decide
      simp only [lfturns_sem, fmd_sem, fal_sem, lfturns_sp, eq_beq, eq_eq, wi64, lfturns_tree, lfturns_M34, fmd_sem, lfturns_M35, fal_sem, Tree.den, List.getElem?_cons_zero, List.getElem?_cons_succ, IE.den, BE.den, At.den, CA.den, Env.get, Cv.int, Cv.bool, List.cons_append, List.nil_append, List.map_cons, List.map_nil, bindRes, bindEq, Fits, SV.den, denL, place, placeL, eq_t, eq_f, lt_t, lt_f, le_t, le_f, beq_iff_eq, beq_eq_false_iff_ne, ne_eq, reduceCtorEq, b_dec, decide_eq_true_eq, decide_eq_false_iff_not, Bool.not_eq_false', Bool.or_eq_true, Bool.or_eq_false_iff, Bool.and_eq_false_iff, true_iff, false_iff, Bool.false_eq_true, Bool.not_eq_true', Bool.and_eq_true, Bool.not_true, Bool.not_false, List.cons.injEq, Cv.i.injEq, Cv.b.injEq, and_true, true_and, agg_inj, tup_inj, Value.int.injEq, Value.bool.injEq]
      simp only [g1, g2, g3, i0, i1, i2, if_true, if_false, true_and, and_true, false_and, and_false, true_or, or_true, false_or, or_false, true_iff, iff_true, false_iff, iff_false, not_true_eq_false, not_false_eq_true, true_implies, false_implies, implies_true, forall_const, decide_true, decide_false, reduceCtorEq]
      by_cases hc : c = 0
      · simp only [hc, if_true, if_false, true_and, and_true, false_and, and_false, true_or, or_true, false_or, or_false, true_iff, iff_true, false_iff, iff_false, not_true_eq_false, not_false_eq_true, true_implies, false_implies, implies_true, forall_const, decide_true, decide_false, reduceCtorEq]
      · by_cases ha : a = -9223372036854775808
        · simp only [hc, ha, if_true, if_false, true_and, and_true, false_and, and_false, true_or, or_true, false_or, or_false, true_iff, iff_true, false_iff, iff_false, not_true_eq_false, not_false_eq_true, true_implies, false_implies, implies_true, forall_const, decide_true, decide_false, reduceCtorEq]
        · obtain ⟨v0, w0⟩ := md_tell (a := a) (b := b) (c := c) (m := 0) hc (by omega)
          obtain ⟨v1, w1⟩ := md_tell (a := -a) (b := b) (c := c) (m := 1) hc (by omega)
          obtain ⟨v2, w2⟩ := md_tell (a := b) (b := a) (c := c) (m := 0) hc (by omega)
          obtain ⟨v3, w3⟩ := md_tell (a := b) (b := c) (c := c) (m := 2) hc (by omega)
          rw [md_neg] at v1 w1
          have e2 : mdZ b a c 0 = mdZ a b c 0 := by unfold mdZ; rw [Int.mul_comm b a]
          rw [e2] at v2 w2
          rw [md_same hc, if_pos g2] at v3 w3
          generalize mdZ a b c 0 = q at *
          have hna : 0 - a = -a := by omega
          simp only [hc, ha, hna, v0, w0, v1, w1, v2, w2, v3, w3, if_true, if_false, true_and, and_true, false_and, and_false, true_or, or_true, false_or, or_false, true_iff, iff_true, false_iff, iff_false, not_true_eq_false, not_false_eq_true, true_implies, false_implies, implies_true, forall_const, decide_true, decide_false, reduceCtorEq]
          intro x hx _ _ y hy _ _ n hn
          subst hn
          simp only [v1, w1]
          have hi : IsI (-a) := by unfold IsI; omega
          refine ⟨hi, ?_⟩
          clear v0 w0 v1 w1 v2 w2 v3 w3
          by_cases i3 : IsI q <;> by_cases i4 : IsI (-q) <;> simp only [i3, i4, if_true, if_false] at hx hy ⊢ <;> simp only [IsI] at *
          all_goals (repeat' (first | intro _ | refine And.intro ?_ ?_ | exact trivial)) <;> omega
end Go.Proofs.Ytbmfkdammaodpaa.X
