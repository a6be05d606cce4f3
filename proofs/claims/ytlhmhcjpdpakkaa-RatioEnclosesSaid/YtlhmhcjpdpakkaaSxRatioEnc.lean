/-
  RatioEncloses tells true, for every input.
-/
import Derived.Test.YtlhmhcjpdpakkaaSxRatioNum
namespace Go.Proofs.Ytlhmhcjpdpakkaa.X
open Go Go.SX Go.RowKit
set_option linter.unusedVariables false
set_option linter.unusedSimpArgs false







def lrenc_sp : SpecSh := { args := [(.int .i64 (.z 0)), (.int .i64 (.z 0)), (.int .i64 (.z 0))], res := (.bool .f), sh := [.b] }
set_option maxRecDepth 100000 in
def lrenc_tree : Tree :=
.ite (.cmp .eq (.v 1) (.z 0)) (.call 41 [.b] [] <|
.ret (.bool (.v 3))) <|
.lett (.rem (.v 2) (.z 1000000000)) <|
.lett (.addw .i64 (.v 3) (.z 1000000000)) <|
.lett (.rem (.v 4) (.z 1000000000)) <|
.lett (.addw .i64 (.z 1) (.v 5)) <|
.call 38 [.i (some ((-9223372036854775808), 9223372036854775807)), .i (some ((-9223372036854775808), 9223372036854775807)), .i (some ((-9223372036854775808), 9223372036854775807))] [.i (.v 0), .i (.v 1)] <|
.ite (.not (.cmp .eq (.v 9) (.z 0))) (.call 41 [.b] [] <|
.ite (.v 10) (.ret (.bool (.and (.cmp .eq (.v 7) (.z 0)) (.cmp .eq (.v 8) (.z 0))))) <|
.ret (.bool .f)) <|
.call 63 [.i (some ((-9223372036854775808), 9223372036854775807)), .i (some ((-9223372036854775808), 9223372036854775807)), .i (some ((-9223372036854775808), 9223372036854775807))] [.i (.v 7), .i (.v 8), .i (.v 6)] <|
.ite (.cmp .eq (.v 12) (.z 0)) (.call 27 [.i (some ((-9223372036854775808), 9223372036854775807)), .i (some ((-9223372036854775808), 9223372036854775807))] [.i (.v 10), .i (.v 8)] <|
.call 27 [.i (some ((-9223372036854775808), 9223372036854775807)), .i (some ((-9223372036854775808), 9223372036854775807))] [.i (.v 7), .i (.v 6)] <|
.ite (.cmp .lt (.v 11) (.v 10)) (.ret (.bool .f)) <|
.ite (.cmp .lt (.v 10) (.v 11)) (.lett (.sub (.v 11) (.z 1)) <|
.ite (.not (.cmp .eq (.v 17) (.v 10))) (.ret (.bool .f)) <|
.ite (.cmp .eq (.v 14) (.z 0)) (.ite (.cmp .eq (.v 16) (.z 0)) (.ite (.not (.eqv (.cmp .eq (.v 10) (.v 11)) (.cmp .eq (.v 13) (.v 15)))) (.ret (.bool .f)) <|
.call 38 [.i (some ((-9223372036854775808), 9223372036854775807)), .i (some ((-9223372036854775808), 9223372036854775807)), .i (some ((-9223372036854775808), 9223372036854775807))] [.i (.v 0), .i (.z 1)] <|
.call 63 [.i (some ((-9223372036854775808), 9223372036854775807)), .i (some ((-9223372036854775808), 9223372036854775807)), .i (some ((-9223372036854775808), 9223372036854775807))] [.i (.v 18), .i (.v 19), .i (.v 6)] <|
.call 27 [.i (some ((-9223372036854775808), 9223372036854775807)), .i (some ((-9223372036854775808), 9223372036854775807))] [.i (.v 0), .i (.v 6)] <|
.call 41 [.b] [] <|
.ite (.v 26) (.ite (.cmp .eq (.v 20) (.z 0)) (.ite (.cmp .eq (.v 23) (.v 25)) (.ite (.not (.cmp .eq (.v 25) (.z 0))) (.ret (.bool .t)) <|
.ret (.bool (.and (.cmp .eq (.v 21) (.v 24)) (.cmp .eq (.v 22) (.v 24))))) <|
.ret (.bool .f)) <|
.ret (.bool .f)) <|
.ret (.bool .f)) <|
.call 38 [.i (some ((-9223372036854775808), 9223372036854775807)), .i (some ((-9223372036854775808), 9223372036854775807)), .i (some ((-9223372036854775808), 9223372036854775807))] [.i (.v 0), .i (.z 1)] <|
.call 63 [.i (some ((-9223372036854775808), 9223372036854775807)), .i (some ((-9223372036854775808), 9223372036854775807)), .i (some ((-9223372036854775808), 9223372036854775807))] [.i (.v 18), .i (.v 19), .i (.v 6)] <|
.call 27 [.i (some ((-9223372036854775808), 9223372036854775807)), .i (some ((-9223372036854775808), 9223372036854775807))] [.i (.v 0), .i (.v 6)] <|
.call 41 [.b] [] <|
.ite (.v 26) (.ite (.cmp .eq (.v 20) (.z 0)) (.ite (.cmp .eq (.v 23) (.v 25)) (.ite (.not (.cmp .eq (.v 25) (.z 0))) (.ret (.bool .t)) <|
.ret (.bool (.and (.cmp .eq (.v 21) (.v 24)) (.cmp .eq (.v 22) (.v 24))))) <|
.ret (.bool .f)) <|
.ret (.bool .f)) <|
.ret (.bool .f)) <|
.call 38 [.i (some ((-9223372036854775808), 9223372036854775807)), .i (some ((-9223372036854775808), 9223372036854775807)), .i (some ((-9223372036854775808), 9223372036854775807))] [.i (.v 0), .i (.z 1)] <|
.call 63 [.i (some ((-9223372036854775808), 9223372036854775807)), .i (some ((-9223372036854775808), 9223372036854775807)), .i (some ((-9223372036854775808), 9223372036854775807))] [.i (.v 18), .i (.v 19), .i (.v 6)] <|
.call 27 [.i (some ((-9223372036854775808), 9223372036854775807)), .i (some ((-9223372036854775808), 9223372036854775807))] [.i (.v 0), .i (.v 6)] <|
.call 41 [.b] [] <|
.ite (.v 26) (.ite (.cmp .eq (.v 20) (.z 0)) (.ite (.cmp .eq (.v 23) (.v 25)) (.ite (.not (.cmp .eq (.v 25) (.z 0))) (.ret (.bool .t)) <|
.ret (.bool (.and (.cmp .eq (.v 21) (.v 24)) (.cmp .eq (.v 22) (.v 24))))) <|
.ret (.bool .f)) <|
.ret (.bool .f)) <|
.ret (.bool .f)) <|
.ite (.cmp .eq (.v 14) (.z 0)) (.ite (.cmp .eq (.v 16) (.z 0)) (.ite (.not (.eqv (.cmp .eq (.v 10) (.v 11)) (.cmp .eq (.v 13) (.v 15)))) (.ret (.bool .f)) <|
.call 38 [.i (some ((-9223372036854775808), 9223372036854775807)), .i (some ((-9223372036854775808), 9223372036854775807)), .i (some ((-9223372036854775808), 9223372036854775807))] [.i (.v 0), .i (.z 1)] <|
.call 63 [.i (some ((-9223372036854775808), 9223372036854775807)), .i (some ((-9223372036854775808), 9223372036854775807)), .i (some ((-9223372036854775808), 9223372036854775807))] [.i (.v 17), .i (.v 18), .i (.v 6)] <|
.call 27 [.i (some ((-9223372036854775808), 9223372036854775807)), .i (some ((-9223372036854775808), 9223372036854775807))] [.i (.v 0), .i (.v 6)] <|
.call 41 [.b] [] <|
.ite (.v 25) (.ite (.cmp .eq (.v 19) (.z 0)) (.ite (.cmp .eq (.v 22) (.v 24)) (.ite (.not (.cmp .eq (.v 24) (.z 0))) (.ret (.bool .t)) <|
.ret (.bool (.and (.cmp .eq (.v 20) (.v 23)) (.cmp .eq (.v 21) (.v 23))))) <|
.ret (.bool .f)) <|
.ret (.bool .f)) <|
.ret (.bool .f)) <|
.call 38 [.i (some ((-9223372036854775808), 9223372036854775807)), .i (some ((-9223372036854775808), 9223372036854775807)), .i (some ((-9223372036854775808), 9223372036854775807))] [.i (.v 0), .i (.z 1)] <|
.call 63 [.i (some ((-9223372036854775808), 9223372036854775807)), .i (some ((-9223372036854775808), 9223372036854775807)), .i (some ((-9223372036854775808), 9223372036854775807))] [.i (.v 17), .i (.v 18), .i (.v 6)] <|
.call 27 [.i (some ((-9223372036854775808), 9223372036854775807)), .i (some ((-9223372036854775808), 9223372036854775807))] [.i (.v 0), .i (.v 6)] <|
.call 41 [.b] [] <|
.ite (.v 25) (.ite (.cmp .eq (.v 19) (.z 0)) (.ite (.cmp .eq (.v 22) (.v 24)) (.ite (.not (.cmp .eq (.v 24) (.z 0))) (.ret (.bool .t)) <|
.ret (.bool (.and (.cmp .eq (.v 20) (.v 23)) (.cmp .eq (.v 21) (.v 23))))) <|
.ret (.bool .f)) <|
.ret (.bool .f)) <|
.ret (.bool .f)) <|
.call 38 [.i (some ((-9223372036854775808), 9223372036854775807)), .i (some ((-9223372036854775808), 9223372036854775807)), .i (some ((-9223372036854775808), 9223372036854775807))] [.i (.v 0), .i (.z 1)] <|
.call 63 [.i (some ((-9223372036854775808), 9223372036854775807)), .i (some ((-9223372036854775808), 9223372036854775807)), .i (some ((-9223372036854775808), 9223372036854775807))] [.i (.v 17), .i (.v 18), .i (.v 6)] <|
.call 27 [.i (some ((-9223372036854775808), 9223372036854775807)), .i (some ((-9223372036854775808), 9223372036854775807))] [.i (.v 0), .i (.v 6)] <|
.call 41 [.b] [] <|
.ite (.v 25) (.ite (.cmp .eq (.v 19) (.z 0)) (.ite (.cmp .eq (.v 22) (.v 24)) (.ite (.not (.cmp .eq (.v 24) (.z 0))) (.ret (.bool .t)) <|
.ret (.bool (.and (.cmp .eq (.v 20) (.v 23)) (.cmp .eq (.v 21) (.v 23))))) <|
.ret (.bool .f)) <|
.ret (.bool .f)) <|
.ret (.bool .f)) <|
.call 38 [.i (some ((-9223372036854775808), 9223372036854775807)), .i (some ((-9223372036854775808), 9223372036854775807)), .i (some ((-9223372036854775808), 9223372036854775807))] [.i (.v 0), .i (.z 1)] <|
.call 63 [.i (some ((-9223372036854775808), 9223372036854775807)), .i (some ((-9223372036854775808), 9223372036854775807)), .i (some ((-9223372036854775808), 9223372036854775807))] [.i (.v 13), .i (.v 14), .i (.v 6)] <|
.call 27 [.i (some ((-9223372036854775808), 9223372036854775807)), .i (some ((-9223372036854775808), 9223372036854775807))] [.i (.v 0), .i (.v 6)] <|
.call 41 [.b] [] <|
.ite (.v 21) (.ite (.cmp .eq (.v 15) (.z 0)) (.ite (.cmp .eq (.v 18) (.v 20)) (.ite (.not (.cmp .eq (.v 20) (.z 0))) (.ret (.bool .t)) <|
.ret (.bool (.and (.cmp .eq (.v 16) (.v 19)) (.cmp .eq (.v 17) (.v 19))))) <|
.ret (.bool .f)) <|
.ret (.bool .f)) <|
.ret (.bool .f)
noncomputable def lrenc_cx : Ctx := { tys := tys, fns := fns, sps := [(38, qnew_sp), (63, qenc_sp), (27, fmul_sp), (41, qal_sp)], anns := [], trys := [] }
def lrenc_ivs : List (Option (Int × Int)) := [some ((-9223372036854775808), 9223372036854775807), some ((-9223372036854775808), 9223372036854775807), some ((-9223372036854775808), 9223372036854775807)]
set_option maxRecDepth 100000 in
theorem lrenc_walk : runFn lrenc_cx 3000 13 Try.f13 lrenc_sp.args lrenc_ivs = lrenc_tree := by kernel_rfl
noncomputable def lrenc_M : Nat → SpecSem
  | 38 => qnew_sem
  | 63 => qenc_sem
  | 27 => fmul_sem
  | 41 => qal_sem
  | _ => noSem
theorem lrenc_M38 : lrenc_M 38 = qnew_sem := rfl
theorem lrenc_M63 : lrenc_M 63 = qenc_sem := rfl
theorem lrenc_M27 : lrenc_M 27 = fmul_sem := rfl
theorem lrenc_M41 : lrenc_M 41 = qal_sem := rfl
theorem lrenc_cxok : CxOK Try.prog lrenc_cx lrenc_M := ⟨tysOK, fnsOK, spCons qnew_ok <| spCons qenc_ok <| spCons fmul_ok <| spCons qal_ok <| fun _ _ h => spNil h, mixedOK, fun _ _ h => trNil h⟩

def lrenc_sem : SpecSem := { pre := fun cs => match cs with | [.i n, .i d, .i s] => IsI n ∧ IsI d ∧ IsI s | _ => False, out := fun cs => match cs with | [.i n, .i d, .i s] => [.b true] | _ => [] }
theorem lrenc_ok : SpecOK Try.prog 13 lrenc_sp lrenc_sem := by
  refine spec_of_tree lrenc_cxok Try.func13 (by kernel_rfl) (by kernel_rfl) lrenc_walk rfl ?_
  intro cs hpre
  match cs, hpre with
  | [.i n, .i d, .i s], ⟨h1, h2, h3⟩ =>
    have g1 : IsI n := h1
    have g2 : IsI d := h2
    have g3 : IsI s := h3
    unfold IsI at h1 h2 h3
    refine ⟨rfl, IvsB.ok (by simp only [lrenc_ivs, IvsB, Cv.int, and_true]; omega), ?_, ?_⟩
    · simp only [lrenc_sem, lrenc_sp, Fits]
    · have i1 : IsI 1 := by decide
      simp only [lrenc_sem, qnew_sem, qenc_sem, qal_sem, tell, rtG, lrenc_sp, lrenc_tree, lrenc_M38, qnew_sem, lrenc_M63, qenc_sem, lrenc_M27, fmul_sem, lrenc_M41, qal_sem, Tree.den, List.getElem?_cons_zero, List.getElem?_cons_succ, IE.den, BE.den, At.den, CA.den, Env.get, Cv.int, Cv.bool, List.cons_append, List.nil_append, List.map_cons, List.map_nil, bindRes, bindEq, Fits, SV.den, denL, place, placeL, eq_t, eq_f, lt_t, lt_f, le_t, le_f, beq_iff_eq, beq_eq_false_iff_ne, ne_eq, reduceCtorEq, b_dec, decide_eq_true_eq, decide_eq_false_iff_not, Bool.not_eq_false', Bool.or_eq_true, Bool.or_eq_false_iff, Bool.and_eq_false_iff, true_iff, false_iff, Bool.false_eq_true, Bool.not_eq_true', Bool.and_eq_true, Bool.not_true, Bool.not_false, List.cons.injEq, Cv.i.injEq, Cv.b.injEq, and_true, true_and, agg_inj, tup_inj, Value.int.injEq, Value.bool.injEq]
      simp only [g1, g2, g3, i1, if_true, if_false, true_and, and_true, false_and, and_false, true_or, or_true, false_or, or_false, true_iff, iff_true, false_iff, iff_false, not_true_eq_false, not_false_eq_true, true_implies, false_implies, implies_true, forall_const, decide_true, decide_false, reduceCtorEq]
      intro hd x0 hx0 x1 hx1 x2 hx2 sc hsc
      have t0 := tmod_rng s
      rw [← hx0] at t0
      rw [wi64] at hx1
      have t1 := tmod_pos (s := x1) (by omega)
      rw [← hx2] at t1
      rw [wi64] at hsc
      have hsc1 : 1 ≤ sc ∧ sc ≤ 1000000000 := by omega
      clear hx0 hx1 hx2 hsc t0 t1
      have isc : IsI sc := by unfold IsI; omega
      intro x hx xl xu y hy yl yu e he _ _
      obtain ⟨w1, w2, w3⟩ := rt_whole n
      have w4 : rtOK n 1 := by unfold rtOK; rw [w1, w2]; exact ⟨g1, i1⟩
      have w5 : (if (1 : Int) < 0 then -n else n) = n := rfl
      have w6 : absZ 1 = 1 := rfl
      have ix : IsI x := ⟨xl, xu⟩
      have iy : IsI y := ⟨yl, yu⟩
      refine ⟨fun he0 => ?_, fun he0 => ⟨⟨ix, iy, isc⟩, ?_⟩⟩
      · by_cases hok : rtOK (if d < 0 then -n else n) (absZ d)
        · rw [if_pos hd, if_pos hok] at he; exact absurd he he0
        · rw [if_neg (fun h => hok h.2)] at hx hy; exact ⟨hx, hy⟩
      · have hR := new_right hd hx hy he he0
        clear hx hy he
        simp only [w5, w6, w1, w2, w3, w4, hR, if_true, if_false, true_and, and_true, false_and, and_false, true_or, or_true, false_or, or_false, true_iff, iff_true, false_iff, iff_false, not_true_eq_false, not_false_eq_true, true_implies, false_implies, implies_true, forall_const, decide_true, decide_false, reduceCtorEq]
        obtain ⟨q, r, ⟨r0, r1⟩, e1, e2, e3⟩ := enc_parts (T := x * sc) (C := y) (by have := hR.1; omega)
        have hs1 := hsc1.1
        have o1 : ¬ (1 : Int) = 0 := by omega
        simp only [e1, e2, hs1, o1, eq_eq, Int.ediv_one, Int.neg_neg, if_true, if_false, true_and, and_true, false_and, and_false, true_or, or_true, false_or, or_false, true_iff, iff_true, false_iff, iff_false, not_true_eq_false, not_false_eq_true, true_implies, false_implies, implies_true, forall_const, decide_true, decide_false, reduceCtorEq]
        clear e1 e2
        have tl : ∀ (P : Int), (IsI P ∨ ¬ IsI P) := fun P => Decidable.em _
        intro lo hlo ll lu hi hhi hl hu f hf _ _
        refine ⟨fun hf0 => ⟨⟨⟨ll, lu⟩, iy⟩, ?_⟩, fun _ => ?_⟩
        · have iq : IsI q ∧ IsI (if r = 0 then q else q + 1) := by
            refine Decidable.byContradiction fun h => ?_
            rw [if_neg h] at hf; omega
          rw [if_pos iq] at hlo hhi
          intro m hm _ _ me hme _ _
          refine ⟨⟨ix, isc⟩, ?_⟩
          intro p hp _ _ pe hpe _ _
          rw [hlo] at hm hme
          rw [e3] at hm hme
          have hpm : me = 0 → pe = 0 → m = x * sc - r ∧ p = x * sc := fun h1 h2 => by
            constructor
            · by_cases h : IsI (x * sc - r)
              · rw [if_pos h] at hm; exact hm
              · rw [if_neg h] at hme; omega
            · by_cases h : IsI (x * sc)
              · rw [if_pos h] at hp; exact hp
              · rw [if_neg h] at hpe; omega
          clear hm hp hme hpe e3
          have hlh : hi = lo ∧ r = 0 ∨ hi = lo + 1 ∧ r ≠ 0 := by split at hhi <;> omega
          refine ⟨fun h => by omega, fun _ => ⟨fun h z hz => ⟨fun h2 => by omega, fun _ => ⟨fun m0 => ⟨fun p0 => ⟨fun hne => ?_, fun _ => ?_⟩, fun _ => ?_⟩, fun _ => ?_⟩⟩, fun h => ⟨fun m0 => ⟨fun p0 => ⟨fun hne => ?_, fun _ => ?_⟩, fun _ => ?_⟩, fun _ => ?_⟩⟩⟩
          · have := hpm m0 p0; omega
          · intro w hw _ _ v hv _ _ u hu _ _
            subst hw hv hu
            refine ⟨⟨g1, i1, isc⟩, ?_⟩
            simp only [w3, Int.ediv_one, Int.neg_neg, if_true, if_false, true_and, and_true, false_and, and_false, true_or, or_true, false_or, or_false, true_iff, iff_true, false_iff, iff_false, not_true_eq_false, not_false_eq_true, true_implies, false_implies, implies_true, forall_const, decide_true, decide_false, reduceCtorEq]
            generalize w * sc = P
            rcases tl P with ip | ip <;> simp only [ip, if_true, if_false, true_and, and_true, false_and, and_false, true_or, or_true, false_or, or_false, true_iff, iff_true, false_iff, iff_false, not_true_eq_false, not_false_eq_true, true_implies, false_implies, implies_true, forall_const, decide_true, decide_false, reduceCtorEq]
            all_goals (repeat' (first | intro _ | refine And.intro ?_ ?_ | exact trivial)) <;> omega
          · intro w hw _ _ v hv _ _ u hu _ _
            subst hw hv hu
            refine ⟨⟨g1, i1, isc⟩, ?_⟩
            simp only [w3, Int.ediv_one, Int.neg_neg, if_true, if_false, true_and, and_true, false_and, and_false, true_or, or_true, false_or, or_false, true_iff, iff_true, false_iff, iff_false, not_true_eq_false, not_false_eq_true, true_implies, false_implies, implies_true, forall_const, decide_true, decide_false, reduceCtorEq]
            generalize w * sc = P
            rcases tl P with ip | ip <;> simp only [ip, if_true, if_false, true_and, and_true, false_and, and_false, true_or, or_true, false_or, or_false, true_iff, iff_true, false_iff, iff_false, not_true_eq_false, not_false_eq_true, true_implies, false_implies, implies_true, forall_const, decide_true, decide_false, reduceCtorEq]
            all_goals (repeat' (first | intro _ | refine And.intro ?_ ?_ | exact trivial)) <;> omega
          · intro w hw _ _ v hv _ _ u hu _ _
            subst hw hv hu
            refine ⟨⟨g1, i1, isc⟩, ?_⟩
            simp only [w3, Int.ediv_one, Int.neg_neg, if_true, if_false, true_and, and_true, false_and, and_false, true_or, or_true, false_or, or_false, true_iff, iff_true, false_iff, iff_false, not_true_eq_false, not_false_eq_true, true_implies, false_implies, implies_true, forall_const, decide_true, decide_false, reduceCtorEq]
            generalize w * sc = P
            rcases tl P with ip | ip <;> simp only [ip, if_true, if_false, true_and, and_true, false_and, and_false, true_or, or_true, false_or, or_false, true_iff, iff_true, false_iff, iff_false, not_true_eq_false, not_false_eq_true, true_implies, false_implies, implies_true, forall_const, decide_true, decide_false, reduceCtorEq]
            all_goals (repeat' (first | intro _ | refine And.intro ?_ ?_ | exact trivial)) <;> omega
          · have := hpm m0 p0; omega
          · intro w hw _ _ v hv _ _ u hu _ _
            subst hw hv hu
            refine ⟨⟨g1, i1, isc⟩, ?_⟩
            simp only [w3, Int.ediv_one, Int.neg_neg, if_true, if_false, true_and, and_true, false_and, and_false, true_or, or_true, false_or, or_false, true_iff, iff_true, false_iff, iff_false, not_true_eq_false, not_false_eq_true, true_implies, false_implies, implies_true, forall_const, decide_true, decide_false, reduceCtorEq]
            generalize w * sc = P
            rcases tl P with ip | ip <;> simp only [ip, if_true, if_false, true_and, and_true, false_and, and_false, true_or, or_true, false_or, or_false, true_iff, iff_true, false_iff, iff_false, not_true_eq_false, not_false_eq_true, true_implies, false_implies, implies_true, forall_const, decide_true, decide_false, reduceCtorEq]
            all_goals (repeat' (first | intro _ | refine And.intro ?_ ?_ | exact trivial)) <;> omega
          · intro w hw _ _ v hv _ _ u hu _ _
            subst hw hv hu
            refine ⟨⟨g1, i1, isc⟩, ?_⟩
            simp only [w3, Int.ediv_one, Int.neg_neg, if_true, if_false, true_and, and_true, false_and, and_false, true_or, or_true, false_or, or_false, true_iff, iff_true, false_iff, iff_false, not_true_eq_false, not_false_eq_true, true_implies, false_implies, implies_true, forall_const, decide_true, decide_false, reduceCtorEq]
            generalize w * sc = P
            rcases tl P with ip | ip <;> simp only [ip, if_true, if_false, true_and, and_true, false_and, and_false, true_or, or_true, false_or, or_false, true_iff, iff_true, false_iff, iff_false, not_true_eq_false, not_false_eq_true, true_implies, false_implies, implies_true, forall_const, decide_true, decide_false, reduceCtorEq]
            all_goals (repeat' (first | intro _ | refine And.intro ?_ ?_ | exact trivial)) <;> omega
          · intro w hw _ _ v hv _ _ u hu _ _
            subst hw hv hu
            refine ⟨⟨g1, i1, isc⟩, ?_⟩
            simp only [w3, Int.ediv_one, Int.neg_neg, if_true, if_false, true_and, and_true, false_and, and_false, true_or, or_true, false_or, or_false, true_iff, iff_true, false_iff, iff_false, not_true_eq_false, not_false_eq_true, true_implies, false_implies, implies_true, forall_const, decide_true, decide_false, reduceCtorEq]
            generalize w * sc = P
            rcases tl P with ip | ip <;> simp only [ip, if_true, if_false, true_and, and_true, false_and, and_false, true_or, or_true, false_or, or_false, true_iff, iff_true, false_iff, iff_false, not_true_eq_false, not_false_eq_true, true_implies, false_implies, implies_true, forall_const, decide_true, decide_false, reduceCtorEq]
            all_goals (repeat' (first | intro _ | refine And.intro ?_ ?_ | exact trivial)) <;> omega
        · intro w hw _ _ v hv _ _ u hu _ _
          subst hw hv hu
          refine ⟨⟨g1, i1, isc⟩, ?_⟩
          simp only [w3, Int.ediv_one, Int.neg_neg, if_true, if_false, true_and, and_true, false_and, and_false, true_or, or_true, false_or, or_false, true_iff, iff_true, false_iff, iff_false, not_true_eq_false, not_false_eq_true, true_implies, false_implies, implies_true, forall_const, decide_true, decide_false, reduceCtorEq]
          generalize w * sc = P
          rcases tl P with ip | ip <;> simp only [ip, if_true, if_false, true_and, and_true, false_and, and_false, true_or, or_true, false_or, or_false, true_iff, iff_true, false_iff, iff_false, not_true_eq_false, not_false_eq_true, true_implies, false_implies, implies_true, forall_const, decide_true, decide_false, reduceCtorEq]
          all_goals (repeat' (first | intro _ | refine And.intro ?_ ?_ | exact trivial)) <;> omega
end Go.Proofs.Ytlhmhcjpdpakkaa.X
