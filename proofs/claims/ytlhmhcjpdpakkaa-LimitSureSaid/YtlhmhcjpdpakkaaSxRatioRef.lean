/-
  The contracts of the reference's ratios (datumref06), for every input in range.
-/
import Derived.Test.YtlhmhcjpdpakkaaSxRatio
import Derived.Test.YtlhmhcjpdpakkaaSxRef4M
import Derived.Test.YtlhmhcjpdpakkaaSxRefGcd
namespace Go.Proofs.Ytlhmhcjpdpakkaa.X
open Go Go.SX Go.RowKit
set_option linter.unusedVariables false
set_option linter.unusedSimpArgs false







def r6right_sp : SpecSh := { args := [(.agg [(.int .i64 (.z 0)), (.int .i64 (.z 0))])], res := (.bool .f), sh := [.b] }
set_option maxRecDepth 100000 in
def r6right_tree : Tree :=
.ite (.cmp .le (.z 1) (.v 1)) (.call 104 [.i (some (0, 18446744073709551615)), .i (some (0, 18446744073709551615))] [.i (.v 0)] <|
.call 104 [.i (some (0, 18446744073709551615)), .i (some (0, 18446744073709551615))] [.i (.v 1)] <|
.call 103 [.i (some (0, 18446744073709551615)), .i (some (0, 18446744073709551615))] [.i (.v 2), .i (.v 3), .i (.v 4), .i (.v 5)] <|
.ret (.bool (.and (.cmp .eq (.v 6) (.z 0)) (.cmp .eq (.v 7) (.z 1))))) <|
.ret (.bool .f)
noncomputable def r6right_cx : Ctx := { tys := tys, fns := fns, sps := [(103, rgcd_sp), (104, r4size_sp)], anns := [], trys := [] }
def r6right_ivs : List (Option (Int × Int)) := [some ((-9223372036854775808), 9223372036854775807), some ((-9223372036854775808), 9223372036854775807)]
set_option maxRecDepth 100000 in
theorem r6right_walk : runFn r6right_cx 3000 40 Try.f40 r6right_sp.args r6right_ivs = r6right_tree := by kernel_rfl
noncomputable def r6right_M : Nat → SpecSem
  | 103 => rgcd_sem
  | 104 => r4size_sem
  | _ => noSem
theorem r6right_M103 : r6right_M 103 = rgcd_sem := rfl
theorem r6right_M104 : r6right_M 104 = r4size_sem := rfl
theorem r6right_cxok : CxOK Try.prog r6right_cx r6right_M := ⟨tysOK, fnsOK, spCons rgcd_ok <| spCons r4size_ok <| fun _ _ h => spNil h, mixedOK, fun _ _ h => trNil h⟩

def r6right_sem : SpecSem := qright_sem
theorem r6right_ok : SpecOK Try.prog 40 r6right_sp r6right_sem := by
  refine spec_of_tree r6right_cxok Try.func40 (by kernel_rfl) (by kernel_rfl) r6right_walk rfl ?_
  intro cs hpre
  match cs, hpre with
  | [.i n, .i d], ⟨⟨h1, h2⟩, ⟨h3, h4⟩⟩ =>
    obtain ⟨z1, z2⟩ := absZ_le (a := n) ⟨h1, h2⟩
    obtain ⟨z3, z4⟩ := absZ_le (a := d) ⟨h3, h4⟩
    refine ⟨rfl, IvsB.ok (by simp only [r6right_ivs, IvsB, Cv.int, and_true]; omega), ?_, ?_⟩
    · simp only [r6right_sem, qright_sem, r6right_sp, Fits]
    · simp only [r6right_sem, qright_sem, r4size_sem, rgcd_sem, ggcd_sem, r6right_sp, IsU, IsI, r6right_tree, r6right_M103, rgcd_sem, r6right_M104, r4size_sem, Tree.den, LE.den, Cv.list, placeA, List.getElem?_cons_zero, List.getElem?_cons_succ, IE.den, BE.den, At.den, CA.den, Env.get, Cv.int, Cv.bool, List.cons_append, List.nil_append, List.map_cons, List.map_nil, bindRes, bindEq, Fits, SV.den, denL, place, placeL, eq_t, eq_f, lt_t, lt_f, le_t, le_f, beq_iff_eq, beq_eq_false_iff_ne, ne_eq, reduceCtorEq, b_dec, decide_eq_true_eq, decide_eq_false_iff_not, Bool.not_eq_false', Bool.or_eq_true, Bool.or_eq_false_iff, Bool.and_eq_false_iff, true_iff, false_iff, Bool.false_eq_true, Bool.not_eq_true', Bool.and_eq_true, Bool.not_true, Bool.not_false, List.cons.injEq, Cv.i.injEq, Cv.b.injEq, and_true, true_and, agg_inj, tup_inj, Value.int.injEq, Value.bool.injEq]
      have hR : rtR n d ↔ (1 ≤ d ∧ gcdZ (absZ n) d = 1) := Iff.rfl
      have e2 : 1 ≤ d → absZ d = d := fun h => by unfold absZ; rw [if_neg (by omega)]
      have hg := gcdZ_rng (u := absZ n) (v := absZ d) (by omega) (by omega)
      simp only [hR]
      by_cases hd : 1 ≤ d
      · rw [e2 hd] at *
        refine ⟨fun _ => ⟨by omega, ?_⟩, fun h => by omega⟩
        intro x hx _ _ x' hx' _ _
        refine ⟨by omega, ?_⟩
        intro y hy _ _ y' hy' _ _
        subst hx hy hx' hy'
        simp only [val0]
        (repeat' (first | intro _ | refine And.intro ?_ ?_ | exact trivial)) <;> omega
      · (repeat' (first | intro _ | refine And.intro ?_ ?_ | exact trivial)) <;> omega
def r6low_sp : SpecSh := { args := [(.agg [(.bool .f), (.int .u64 (.z 0)), (.int .u64 (.z 0))]), (.agg [(.int .u64 (.z 0)), (.int .u64 (.z 0))])], res := (.tup [(.agg [(.int .i64 (.z 0)), (.int .i64 (.z 0))]), (.int .i64 (.z 0))]), sh := [.i (some ((-9223372036854775808), 9223372036854775807)), .i (some ((-9223372036854775808), 9223372036854775807)), .i (some ((-9223372036854775808), 9223372036854775807))] }
set_option maxRecDepth 100000 in
def r6low_tree : Tree :=
.call 158 [.i (some (0, 18446744073709551615)), .i (some (0, 18446744073709551615)), .i (some (0, 18446744073709551615)), .i (some (0, 18446744073709551615))] [.i (.v 1), .i (.v 2), .i (.v 3), .i (.v 4)] <|
.ite (.v 0) (.ite (.cmp .lt (.z 0) (.v 5)) (.ite (.cmp .lt (.z 0) (.v 7)) (.ret (.tup [(.agg [(.int .i64 (.z 0)), (.int .i64 (.z 0))]), (.int .i64 (.z 5))])) <|
.ite (.cmp .lt (.z 9223372036854775808) (.v 8)) (.ret (.tup [(.agg [(.int .i64 (.z 0)), (.int .i64 (.z 0))]), (.int .i64 (.z 5))])) <|
.ite (.cmp .eq (.v 8) (.z 9223372036854775808)) (.ret (.tup [(.agg [(.int .i64 (.z 0)), (.int .i64 (.z 0))]), (.int .i64 (.z 5))])) <|
.ret (.tup [(.agg [(.int .i64 (.z 0)), (.int .i64 (.z 0))]), (.int .i64 (.z 5))])) <|
.ite (.cmp .lt (.z 9223372036854775808) (.v 6)) (.ite (.cmp .lt (.z 0) (.v 7)) (.ret (.tup [(.agg [(.int .i64 (.z 0)), (.int .i64 (.z 0))]), (.int .i64 (.z 5))])) <|
.ite (.cmp .lt (.z 9223372036854775808) (.v 8)) (.ret (.tup [(.agg [(.int .i64 (.z 0)), (.int .i64 (.z 0))]), (.int .i64 (.z 5))])) <|
.ite (.cmp .eq (.v 8) (.z 9223372036854775808)) (.ret (.tup [(.agg [(.int .i64 (.z 0)), (.int .i64 (.z 0))]), (.int .i64 (.z 5))])) <|
.ret (.tup [(.agg [(.int .i64 (.z 0)), (.int .i64 (.z 0))]), (.int .i64 (.z 5))])) <|
.ite (.cmp .eq (.v 6) (.z 9223372036854775808)) (.ite (.cmp .lt (.z 0) (.v 7)) (.ret (.tup [(.agg [(.int .i64 (.z 0)), (.int .i64 (.z 0))]), (.int .i64 (.z 5))])) <|
.ite (.cmp .lt (.z 9223372036854775808) (.v 8)) (.ret (.tup [(.agg [(.int .i64 (.z 0)), (.int .i64 (.z 0))]), (.int .i64 (.z 5))])) <|
.ite (.cmp .eq (.v 8) (.z 9223372036854775808)) (.ret (.tup [(.agg [(.int .i64 (.z 0)), (.int .i64 (.z 0))]), (.int .i64 (.z 5))])) <|
.ret (.tup [(.agg [(.int .i64 (.z (-9223372036854775808))), (.int .i64 (.v 8))]), (.int .i64 (.z 0))])) <|
.ite (.not (.and (.cmp .eq (.v 5) (.z 0)) (.cmp .eq (.v 6) (.z 0)))) (.lett (.sub (.z 0) (.v 6)) <|
.ite (.cmp .lt (.z 0) (.v 7)) (.ret (.tup [(.agg [(.int .i64 (.z 0)), (.int .i64 (.z 0))]), (.int .i64 (.z 5))])) <|
.ite (.cmp .lt (.z 9223372036854775808) (.v 8)) (.ret (.tup [(.agg [(.int .i64 (.z 0)), (.int .i64 (.z 0))]), (.int .i64 (.z 5))])) <|
.ite (.cmp .eq (.v 8) (.z 9223372036854775808)) (.ret (.tup [(.agg [(.int .i64 (.z 0)), (.int .i64 (.z 0))]), (.int .i64 (.z 5))])) <|
.ret (.tup [(.agg [(.int .i64 (.v 9)), (.int .i64 (.v 8))]), (.int .i64 (.z 0))])) <|
.ite (.cmp .lt (.z 0) (.v 7)) (.ret (.tup [(.agg [(.int .i64 (.z 0)), (.int .i64 (.z 0))]), (.int .i64 (.z 5))])) <|
.ite (.cmp .lt (.z 9223372036854775808) (.v 8)) (.ret (.tup [(.agg [(.int .i64 (.z 0)), (.int .i64 (.z 0))]), (.int .i64 (.z 5))])) <|
.ite (.cmp .eq (.v 8) (.z 9223372036854775808)) (.ret (.tup [(.agg [(.int .i64 (.z 0)), (.int .i64 (.z 0))]), (.int .i64 (.z 5))])) <|
.ret (.tup [(.agg [(.int .i64 (.z 0)), (.int .i64 (.v 8))]), (.int .i64 (.z 0))])) <|
.ite (.cmp .lt (.z 0) (.v 5)) (.ite (.cmp .lt (.z 0) (.v 7)) (.ret (.tup [(.agg [(.int .i64 (.z 0)), (.int .i64 (.z 0))]), (.int .i64 (.z 5))])) <|
.ite (.cmp .lt (.z 9223372036854775808) (.v 8)) (.ret (.tup [(.agg [(.int .i64 (.z 0)), (.int .i64 (.z 0))]), (.int .i64 (.z 5))])) <|
.ite (.cmp .eq (.v 8) (.z 9223372036854775808)) (.ret (.tup [(.agg [(.int .i64 (.z 0)), (.int .i64 (.z 0))]), (.int .i64 (.z 5))])) <|
.ret (.tup [(.agg [(.int .i64 (.z 0)), (.int .i64 (.z 0))]), (.int .i64 (.z 5))])) <|
.ite (.cmp .lt (.z 9223372036854775808) (.v 6)) (.ite (.cmp .lt (.z 0) (.v 7)) (.ret (.tup [(.agg [(.int .i64 (.z 0)), (.int .i64 (.z 0))]), (.int .i64 (.z 5))])) <|
.ite (.cmp .lt (.z 9223372036854775808) (.v 8)) (.ret (.tup [(.agg [(.int .i64 (.z 0)), (.int .i64 (.z 0))]), (.int .i64 (.z 5))])) <|
.ite (.cmp .eq (.v 8) (.z 9223372036854775808)) (.ret (.tup [(.agg [(.int .i64 (.z 0)), (.int .i64 (.z 0))]), (.int .i64 (.z 5))])) <|
.ret (.tup [(.agg [(.int .i64 (.z 0)), (.int .i64 (.z 0))]), (.int .i64 (.z 5))])) <|
.ite (.cmp .eq (.v 6) (.z 9223372036854775808)) (.ite (.cmp .lt (.z 0) (.v 7)) (.ret (.tup [(.agg [(.int .i64 (.z 0)), (.int .i64 (.z 0))]), (.int .i64 (.z 5))])) <|
.ite (.cmp .lt (.z 9223372036854775808) (.v 8)) (.ret (.tup [(.agg [(.int .i64 (.z 0)), (.int .i64 (.z 0))]), (.int .i64 (.z 5))])) <|
.ite (.cmp .eq (.v 8) (.z 9223372036854775808)) (.ret (.tup [(.agg [(.int .i64 (.z 0)), (.int .i64 (.z 0))]), (.int .i64 (.z 5))])) <|
.ret (.tup [(.agg [(.int .i64 (.z 0)), (.int .i64 (.z 0))]), (.int .i64 (.z 5))])) <|
.ite (.cmp .lt (.z 0) (.v 7)) (.ret (.tup [(.agg [(.int .i64 (.z 0)), (.int .i64 (.z 0))]), (.int .i64 (.z 5))])) <|
.ite (.cmp .lt (.z 9223372036854775808) (.v 8)) (.ret (.tup [(.agg [(.int .i64 (.z 0)), (.int .i64 (.z 0))]), (.int .i64 (.z 5))])) <|
.ite (.cmp .eq (.v 8) (.z 9223372036854775808)) (.ret (.tup [(.agg [(.int .i64 (.z 0)), (.int .i64 (.z 0))]), (.int .i64 (.z 5))])) <|
.ret (.tup [(.agg [(.int .i64 (.v 6)), (.int .i64 (.v 8))]), (.int .i64 (.z 0))])
noncomputable def r6low_cx : Ctx := { tys := tys, fns := fns, sps := [(158, rlow_sp)], anns := [], trys := [] }
def r6low_ivs : List (Option (Int × Int)) := [none, some (0, 18446744073709551615), some (0, 18446744073709551615), some (0, 18446744073709551615), some (0, 18446744073709551615)]
set_option maxRecDepth 100000 in
theorem r6low_walk : runFn r6low_cx 3000 107 Try.f107 r6low_sp.args r6low_ivs = r6low_tree := by kernel_rfl
noncomputable def r6low_M : Nat → SpecSem
  | 158 => rlow_sem
  | _ => noSem
theorem r6low_M158 : r6low_M 158 = rlow_sem := rfl
theorem r6low_cxok : CxOK Try.prog r6low_cx r6low_M := ⟨tysOK, fnsOK, spCons rlow_ok <| fun _ _ h => spNil h, mixedOK, fun _ _ h => trNil h⟩

def r6low_sem : SpecSem := qlow_sem
theorem r6low_ok : SpecOK Try.prog 107 r6low_sp r6low_sem := by
  refine spec_of_tree r6low_cxok Try.func107 (by kernel_rfl) (by kernel_rfl) r6low_walk rfl ?_
  intro cs hpre
  match cs, hpre with
  | [.b b, .i m1, .i m0, .i d1, .i d0], ⟨⟨h1, h2⟩, ⟨h3, h4⟩, ⟨h5, h6⟩, ⟨h7, h8⟩, hz⟩ =>
    have hm : 0 ≤ val m1 m0 ∧ val m1 m0 < 340282366920938463463374607431768211456 := by unfold val; omega
    have hd : 0 ≤ val d1 d0 ∧ val d1 d0 < 340282366920938463463374607431768211456 := by unfold val; omega
    obtain ⟨l1, l2⟩ := low_rng hm hd
    obtain ⟨e1, e2⟩ := rt_low (b := b) hm.1 (show 0 < val d1 d0 by omega)
    refine ⟨rfl, IvsB.ok (by simp only [r6low_ivs, IvsB, Cv.int, and_true]; omega), ?_, ?_⟩
    · simp only [r6low_sem, qlow_sem, r6low_sp, rt, Fits, and_true]; have := rt_fits (sv b (val m1 m0)) (val d1 d0); omega
    · have hok : rtOK (sv b (val m1 m0)) (val d1 d0) ↔ (IsI (if b = true then -(lowX (val m1 m0) (val d1 d0)) else lowX (val m1 m0) (val d1 d0)) ∧ IsI (lowY (val m1 m0) (val d1 d0))) := by
        unfold rtOK; rw [e1, e2]
      simp only [r6low_sem, qlow_sem, r6low_sp, IsU, rt, e1, e2, r6low_tree, r6low_M158, rlow_sem, Tree.den, LE.den, Cv.list, placeA, List.getElem?_cons_zero, List.getElem?_cons_succ, IE.den, BE.den, At.den, CA.den, Env.get, Cv.int, Cv.bool, List.cons_append, List.nil_append, List.map_cons, List.map_nil, bindRes, bindEq, Fits, SV.den, denL, place, placeL, eq_t, eq_f, lt_t, lt_f, le_t, le_f, beq_iff_eq, beq_eq_false_iff_ne, ne_eq, reduceCtorEq, b_dec, decide_eq_true_eq, decide_eq_false_iff_not, Bool.not_eq_false', Bool.or_eq_true, Bool.or_eq_false_iff, Bool.and_eq_false_iff, true_iff, false_iff, Bool.false_eq_true, Bool.not_eq_true', Bool.and_eq_true, Bool.not_true, Bool.not_false, List.cons.injEq, Cv.i.injEq, Cv.b.injEq, and_true, true_and, agg_inj, tup_inj, Value.int.injEq, Value.bool.injEq]
      clear e1 e2
      generalize lowX (val m1 m0) (val d1 d0) = X at *
      generalize lowY (val m1 m0) (val d1 d0) = Y at *
      try simp only [wi64, wu64_mod]
      by_cases h : rtOK (sv b (val m1 m0)) (val d1 d0) <;> simp only [h, true_iff, false_iff, if_true, if_false] at hok ⊢ <;> cases b <;> simp only [IsI, Bool.false_eq_true, if_true, if_false] at hok ⊢ <;> simp only [if_true, if_false, true_and, and_true, false_and, and_false, true_or, or_true, false_or, or_false, true_iff, iff_true, false_iff, iff_false, not_true_eq_false, not_false_eq_true, true_implies, false_implies, implies_true, forall_const, decide_true, decide_false, reduceCtorEq]
      all_goals (repeat' (first | intro _ | refine And.intro ?_ ?_ | exact trivial)) <;> omega
end Go.Proofs.Ytlhmhcjpdpakkaa.X
