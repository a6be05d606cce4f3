/-
  DivideBack tells true, for every two numbers of 128 bits.
-/
import Derived.Test.YtbmfkdammaodpaaSxDivide
import Derived.Test.YtbmfkdammaodpaaSxTimes
namespace Go.Proofs.Ytbmfkdammaodpaa.X
open Go Go.SX Go.RowKit
set_option linter.unusedVariables false
set_option linter.unusedSimpArgs false




def dalive_sp : SpecSh := { args := [], res := (.bool .f), sh := [.b] }
set_option maxRecDepth 100000 in
def dalive_tree : Tree :=
.call 27 [.i (some (0, 18446744073709551615)), .i (some (0, 18446744073709551615)), .i (some (0, 18446744073709551615)), .i (some (0, 18446744073709551615)), .i (some ((-9223372036854775808), 9223372036854775807))] [.i (.z 0), .i (.z 17), .i (.z 0), .i (.z 5)] <|
.ite (.cmp .eq (.v 4) (.z 0)) (.ite (.cmp .eq (.v 1) (.z 3)) (.ret (.bool (.cmp .eq (.v 3) (.z 2)))) <|
.ret (.bool .f)) <|
.ret (.bool .f)
noncomputable def dalive_cx : Ctx := { tys := tys, fns := fns, sps := [(27, wdiv_sp)], anns := [], trys := [] }
def dalive_ivs : List (Option (Int × Int)) := []
set_option maxRecDepth 100000 in
theorem dalive_walk : runFn dalive_cx 3000 28 Try.f28 dalive_sp.args dalive_ivs = dalive_tree := by kernel_rfl
noncomputable def dalive_M : Nat → SpecSem
  | 27 => wdiv_sem
  | _ => noSem
theorem dalive_M27 : dalive_M 27 = wdiv_sem := rfl
theorem dalive_cxok : CxOK Try.prog dalive_cx dalive_M := ⟨tysOK, fnsOK, spCons wdiv_ok <| fun _ _ h => spNil h, mixedOK, fun _ _ h => trNil h⟩

def dalive_sem : SpecSem := { pre := fun cs => match cs with | [] => True | _ => False, out := fun cs => match cs with | [] => [.b true] | _ => [] }
theorem dalive_ok : SpecOK Try.prog 28 dalive_sp dalive_sem := by
  refine spec_of_tree dalive_cxok Try.func28 (by kernel_rfl) (by kernel_rfl) dalive_walk rfl ?_
  intro cs hpre
  match cs, hpre with
  | [], _ =>
    refine ⟨rfl, IvsB.ok (by simp only [dalive_ivs, IvsB, Cv.int, and_true]), ?_, ?_⟩
    · simp only [dalive_sem, dalive_sp, Fits]
    · have e1 : divQ 0 17 0 5 = 3 := by decide
      have e2 : divR 0 17 0 5 = 2 := by decide
      have e3 : val 0 5 = 5 := by decide
      simp only [dalive_sem, dalive_sp, IsU, dalive_tree, dalive_M27, wdiv_sem, Tree.den, List.getElem?_cons_zero, List.getElem?_cons_succ, IE.den, BE.den, At.den, CA.den, Env.get, Cv.int, Cv.bool, List.cons_append, List.nil_append, List.map_cons, List.map_nil, bindRes, bindEq, Fits, SV.den, denL, place, placeL, eq_t, eq_f, lt_t, lt_f, le_t, le_f, beq_iff_eq, beq_eq_false_iff_ne, ne_eq, reduceCtorEq, b_dec, decide_eq_true_eq, decide_eq_false_iff_not, Bool.not_eq_false', Bool.or_eq_true, Bool.or_eq_false_iff, Bool.and_eq_false_iff, true_iff, false_iff, Bool.false_eq_true, Bool.not_eq_true', Bool.and_eq_true, Bool.not_true, Bool.not_false, List.cons.injEq, Cv.i.injEq, Cv.b.injEq, and_true, true_and, agg_inj, tup_inj, Value.int.injEq, Value.bool.injEq]
      simp only [e1, e2, e3]
      (repeat' (first | intro _ | refine And.intro ?_ ?_ | exact trivial)) <;> omega
def ldback_sp : SpecSh := { args := [(.agg [(.int .u64 (.z 0)), (.int .u64 (.z 0))]), (.agg [(.int .u64 (.z 0)), (.int .u64 (.z 0))])], res := (.bool .f), sh := [.b] }
set_option maxRecDepth 100000 in
def ldback_tree : Tree :=
.call 27 [.i (some (0, 18446744073709551615)), .i (some (0, 18446744073709551615)), .i (some (0, 18446744073709551615)), .i (some (0, 18446744073709551615)), .i (some ((-9223372036854775808), 9223372036854775807))] [.i (.v 0), .i (.v 1), .i (.v 2), .i (.v 3)] <|
.ite (.not (.cmp .eq (.v 8) (.z 0))) (.call 28 [.b] [] <|
.ite (.v 9) (.ite (.cmp .eq (.v 8) (.z 4)) (.ret (.bool (.and (.cmp .eq (.v 2) (.z 0)) (.cmp .eq (.v 3) (.z 0))))) <|
.ret (.bool .f)) <|
.ret (.bool .f)) <|
.call 23 [.i (some (0, 18446744073709551615)), .i (some (0, 18446744073709551615)), .b] [.i (.v 4), .i (.v 5), .i (.v 2), .i (.v 3)] <|
.call 22 [.i (some (0, 18446744073709551615)), .i (some (0, 18446744073709551615)), .b] [.i (.v 9), .i (.v 10), .i (.v 6), .i (.v 7)] <|
.call 28 [.b] [] <|
.ite (.v 15) (.ite (.not (.v 11)) (.ite (.not (.v 14)) (.ite (.and (.cmp .eq (.v 12) (.v 0)) (.cmp .eq (.v 13) (.v 1))) (.call 24 [.b] [.i (.v 6), .i (.v 7), .i (.v 2), .i (.v 3)] <|
.ret (.bool (.v 16))) <|
.ret (.bool .f)) <|
.ret (.bool .f)) <|
.ret (.bool .f)) <|
.ret (.bool .f)
noncomputable def ldback_cx : Ctx := { tys := tys, fns := fns, sps := [(27, wdiv_sp), (23, times_sp), (22, wadd_sp), (24, less_sp), (28, dalive_sp)], anns := [], trys := [] }
def ldback_ivs : List (Option (Int × Int)) := [some (0, 18446744073709551615), some (0, 18446744073709551615), some (0, 18446744073709551615), some (0, 18446744073709551615)]
set_option maxRecDepth 100000 in
theorem ldback_walk : runFn ldback_cx 3000 8 Try.f8 ldback_sp.args ldback_ivs = ldback_tree := by kernel_rfl
noncomputable def ldback_M : Nat → SpecSem
  | 27 => wdiv_sem
  | 23 => times_sem
  | 22 => wadd_sem
  | 24 => less_sem
  | 28 => dalive_sem
  | _ => noSem
theorem ldback_M27 : ldback_M 27 = wdiv_sem := rfl
theorem ldback_M23 : ldback_M 23 = times_sem := rfl
theorem ldback_M22 : ldback_M 22 = wadd_sem := rfl
theorem ldback_M24 : ldback_M 24 = less_sem := rfl
theorem ldback_M28 : ldback_M 28 = dalive_sem := rfl
theorem ldback_cxok : CxOK Try.prog ldback_cx ldback_M := ⟨tysOK, fnsOK, spCons wdiv_ok <| spCons times_ok <| spCons wadd_ok <| spCons less_ok <| spCons dalive_ok <| fun _ _ h => spNil h, mixedOK, fun _ _ h => trNil h⟩

def ldback_sem : SpecSem := { pre := fun cs => match cs with | [.i a, .i b, .i c, .i d] => IsU a ∧ IsU b ∧ IsU c ∧ IsU d | _ => False, out := fun cs => match cs with | [.i a, .i b, .i c, .i d] => [.b true] | _ => [] }
theorem ldback_ok : SpecOK Try.prog 8 ldback_sp ldback_sem := by
  refine spec_of_tree ldback_cxok Try.func8 (by kernel_rfl) (by kernel_rfl) ldback_walk rfl ?_
  intro cs hpre
  match cs, hpre with
  | [.i a, .i b, .i c, .i d], ⟨ha, hb, hc, hd⟩ =>
    obtain ⟨⟨g1, g2⟩, ⟨g3, g4⟩⟩ := divQR_rng ha hb hc hd
    obtain ⟨h1, h2⟩ := ha
    obtain ⟨h3, h4⟩ := hb
    obtain ⟨h5, h6⟩ := hc
    obtain ⟨h7, h8⟩ := hd
    refine ⟨rfl, IvsB.ok (by simp only [ldback_ivs, IvsB, Cv.int, and_true]; omega), ?_, ?_⟩
    · simp only [ldback_sem, ldback_sp, Fits]
    · simp only [ldback_sem, ldback_sp, IsU, ldback_tree, ldback_M27, wdiv_sem, ldback_M23, times_sem, ldback_M22, wadd_sem, ldback_M24, less_sem, ldback_M28, dalive_sem, Tree.den, List.getElem?_cons_zero, List.getElem?_cons_succ, IE.den, BE.den, At.den, CA.den, Env.get, Cv.int, Cv.bool, List.cons_append, List.nil_append, List.map_cons, List.map_nil, bindRes, bindEq, Fits, SV.den, denL, place, placeL, eq_t, eq_f, lt_t, lt_f, le_t, le_f, beq_iff_eq, beq_eq_false_iff_ne, ne_eq, reduceCtorEq, b_dec, decide_eq_true_eq, decide_eq_false_iff_not, Bool.not_eq_false', Bool.or_eq_true, Bool.or_eq_false_iff, Bool.and_eq_false_iff, true_iff, false_iff, Bool.false_eq_true, Bool.not_eq_true', Bool.and_eq_true, Bool.not_true, Bool.not_false, List.cons.injEq, Cv.i.injEq, Cv.b.injEq, and_true, true_and, agg_inj, tup_inj, Value.int.injEq, Value.bool.injEq]
      by_cases hz : val c d = 0
      · have hc0 : c = 0 ∧ d = 0 := by unfold val at hz; omega
        have eQ : divQ a b c d = 0 := by unfold divQ; rw [if_pos hz]
        have eR : divR a b c d = 0 := by unfold divR; rw [if_pos hz]
        simp only [hz, eQ, eR, if_true]
        (repeat' (first | intro _ | refine And.intro ?_ ?_ | exact trivial)) <;> omega
      · have eQ : divQ a b c d = val a b / val c d := by unfold divQ; rw [if_neg hz]
        have eR : divR a b c d = val a b % val c d := by unfold divR; rw [if_neg hz]
        have hD : 0 < val c d := by unfold val at *; omega
        have hN : 0 ≤ val a b ∧ val a b < 340282366920938463463374607431768211456 := by unfold val; omega
        have e := Int.emod_add_mul_ediv (val a b) (val c d)
        have hr := Int.emod_lt_of_pos (val a b) hD
        rw [← eQ, ← eR] at e
        rw [← eR] at hr
        have hm : 0 ≤ divQ a b c d * val c d := Int.mul_nonneg g1 (by omega)
        rw [Int.mul_comm] at e
        have hq : ∀ q1 q0 : Int, q1 = divQ a b c d / 18446744073709551616 → q0 = divQ a b c d % 18446744073709551616 → val q1 q0 = divQ a b c d := by intro q1 q0 e1 e0; unfold val; omega
        have hrr : ∀ q1 q0 : Int, q1 = divR a b c d / 18446744073709551616 → q0 = divR a b c d % 18446744073709551616 → val q1 q0 = divR a b c d := by intro q1 q0 e1 e0; unfold val; omega
        simp only [hz, if_false, decide_eq_true_eq, decide_eq_false_iff_not, if_true, if_false, true_and, and_true, false_and, and_false, true_or, or_true, false_or, or_false, true_iff, iff_true, false_iff, iff_false, not_true_eq_false, not_false_eq_true, true_implies, false_implies, implies_true, forall_const, decide_true, decide_false, reduceCtorEq]
        refine ⟨by omega, ?_⟩
        intro q1 hq1 _ _ q0 hq0 _ _ r1 hr1 _ _ r0 hr0 _ _ e4 he4 _ _
        have vq := hq q1 q0 hq1 hq0
        have vr := hrr r1 r0 hr1 hr0
        simp only [vq, vr]
        clear hq hrr hq1 hq0 hr1 hr0 vq eQ eR
        generalize divQ a b c d * val c d = M at *
        refine ⟨fun h => by omega, fun _ => ⟨by omega, ?_⟩⟩
        intro m1 hm1 _ _ m0 hm0 _ _
        have vm : val m1 m0 = M := by unfold val; omega
        simp only [vm]
        clear hm1 hm0 vm
        refine ⟨by omega, ?_⟩
        intro s1 hs1 _ _ s0 hs0 _ _
        have va : val s1 s0 = val a b := by
          have : val s1 s0 = M + divR a b c d := by unfold val at *; omega
          omega
        have va1 : s1 = a := by unfold val at va; omega
        have va2 : s0 = b := by unfold val at va; omega
        subst va1; subst va2
        simp only [if_true, if_false, true_and, and_true, false_and, and_false, true_or, or_true, false_or, or_false, true_iff, iff_true, false_iff, iff_false, not_true_eq_false, not_false_eq_true, true_implies, false_implies, implies_true, forall_const, decide_true, decide_false, reduceCtorEq]
        refine ⟨fun ho => ⟨fun hp => ⟨by omega, by omega⟩, fun hp => by omega⟩, fun ho => ?_⟩
        have := of_decide_eq_true ho
        omega
end Go.Proofs.Ytbmfkdammaodpaa.X
