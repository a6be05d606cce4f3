/-
  The contract of the reference's division (datumref02.Div), for every input whose divisor is not 0; and DivideTells.
-/
import Derived.Test.YtbmfkdammaodpaaSxDivBack
import Derived.Test.YtbmfkdammaodpaaSxRef
namespace Go.Proofs.Ytbmfkdammaodpaa.X
open Go Go.SX Go.RowKit
set_option linter.unusedVariables false
set_option linter.unusedSimpArgs false




theorem p2_split {i : Int} (h0 : 0 ≤ i) (h : i ≤ 64) : 18446744073709551616 = p2 (64 - i) * p2 i := by
  rw [p2_mul (by omega) h0, show 64 - i + i = 64 by omega]; rfl
theorem p2_63 {i : Int} (h0 : 0 ≤ i) (h : i ≤ 63) : 0 < p2 i ∧ p2 i ≤ 9223372036854775808 := ⟨p2_pos i, p2_le (m := 63) h0 h⟩
theorem one_shl {i : Int} (h0 : 0 ≤ i) (h : i ≤ 63) : IntKind.u64.wrap (1 * 2 ^ min i.toNat (IntKind.u64).bits) = p2 i := by
  have := p2_63 h0 h
  rw [Int.one_mul, p2_den h0 (by omega), wu64 (by omega) (by omega)]
def rbit_sp : SpecSh := { args := [(.agg [(.int .u64 (.z 0)), (.int .u64 (.z 0))]), (.int .i64 (.z 0))], res := (.int .u64 (.z 0)), sh := [.i (some (0, 18446744073709551615))] }
set_option maxRecDepth 100000 in
def rbit_tree : Tree :=
.ite (.cmp .le (.z 64) (.v 2)) (.lett (.sub (.v 2) (.z 64)) <|
.lett (.shr .u64 (.v 0) (.v 3)) <|
.lett (.bit .and .u64 (.v 4) (.z 1)) <|
.ret (.int .u64 (.v 5))) <|
.lett (.wrap .u64 (.v 2)) <|
.lett (.shr .u64 (.v 1) (.v 3)) <|
.lett (.bit .and .u64 (.v 4) (.z 1)) <|
.ret (.int .u64 (.v 5))
noncomputable def rbit_cx : Ctx := { tys := tys, fns := fns, sps := [], anns := [], trys := [] }
def rbit_ivs : List (Option (Int × Int)) := [some (0, 18446744073709551615), some (0, 18446744073709551615), some ((-9223372036854775808), 9223372036854775807)]
set_option maxRecDepth 100000 in
theorem rbit_walk : runFn rbit_cx 3000 56 Try.f56 rbit_sp.args rbit_ivs = rbit_tree := by kernel_rfl
noncomputable def rbit_M : Nat → SpecSem
  | _ => noSem
theorem rbit_cxok : CxOK Try.prog rbit_cx rbit_M := ⟨tysOK, fnsOK, fun _ _ h => spNil h, mixedOK, fun _ _ h => trNil h⟩

def rbit_sem : SpecSem := { pre := fun cs => match cs with | [.i a, .i b, .i i] => IsU a ∧ IsU b ∧ 0 ≤ i ∧ i ≤ 127 | _ => False, out := fun cs => match cs with | [.i a, .i b, .i i] => [.i (val a b / p2 i % 2)] | _ => [] }
theorem rbit_ok : SpecOK Try.prog 56 rbit_sp rbit_sem := by
  refine spec_of_tree rbit_cxok Try.func56 (by kernel_rfl) (by kernel_rfl) rbit_walk rfl ?_
  intro cs hpre
  match cs, hpre with
  | [.i a, .i b, .i i], ⟨⟨h1, h2⟩, ⟨h3, h4⟩, h5, h6⟩ =>
    refine ⟨rfl, IvsB.ok (by simp only [rbit_ivs, IvsB, Cv.int, and_true]; omega), ?_, ?_⟩
    · simp only [rbit_sem, rbit_sp, Fits, and_true]; omega
    · simp only [rbit_sem, rbit_sp, IsU, rbit_tree, Tree.den, List.getElem?_cons_zero, List.getElem?_cons_succ, IE.den, BE.den, At.den, CA.den, Env.get, Cv.int, Cv.bool, List.cons_append, List.nil_append, List.map_cons, List.map_nil, bindRes, bindEq, Fits, SV.den, denL, place, placeL, eq_t, eq_f, lt_t, lt_f, le_t, le_f, beq_iff_eq, beq_eq_false_iff_ne, ne_eq, reduceCtorEq, b_dec, decide_eq_true_eq, decide_eq_false_iff_not, Bool.not_eq_false', Bool.or_eq_true, Bool.or_eq_false_iff, Bool.and_eq_false_iff, true_iff, false_iff, Bool.false_eq_true, Bool.not_eq_true', Bool.and_eq_true, Bool.not_true, Bool.not_false, List.cons.injEq, Cv.i.injEq, Cv.b.injEq, and_true, true_and, agg_inj, tup_inj, Value.int.injEq, Value.bool.injEq]
      refine ⟨fun hi x hx y hy z hz => ?_, fun hi x hx y hy z hz => ?_⟩
      · subst hx
        have hw : IntKind.i64.wrap (i - 64) = i - 64 := w64 (by omega) (by omega)
        have hw2 : IntKind.u64.wrap (i - 64) = i - 64 := wu64 (by omega) (by omega)
        try rw [hw] at hy
        try rw [hw2] at hy
        rw [p2_den (by omega) (by omega), Int.fdiv_eq_ediv_of_nonneg _ (Int.le_of_lt (p2_pos _))] at hy
        have hy0 : 0 ≤ y := by rw [hy]; exact Int.ediv_nonneg h1 (Int.le_of_lt (p2_pos _))
        have hy1 : y ≤ a := by rw [hy]; exact Int.ediv_le_self _ h1
        have e := and_mod (x := y) 1 (by omega) hy0 (by omega)
        have ez : z = y % 2 := by rw [hz]; exact e
        have ep : p2 i = 18446744073709551616 * p2 (i - 64) := by
          have := p2_mul (n := 64) (m := i - 64) (by omega) (by omega)
          rw [show 64 + (i - 64) = i by omega] at this
          rw [← this]; rfl
        rw [ez, hy, ep, ← Int.ediv_ediv_of_nonneg (by omega)]
        have : val a b / 18446744073709551616 = a := by unfold val; omega
        rw [this]
      · try rw [wu64 (by omega) (by omega)] at hx
        rw [hx] at hy
        rw [p2_den (by omega) (by omega), Int.fdiv_eq_ediv_of_nonneg _ (Int.le_of_lt (p2_pos _))] at hy
        have hy0 : 0 ≤ y := by rw [hy]; exact Int.ediv_nonneg h3 (Int.le_of_lt (p2_pos _))
        have hy1 : y ≤ b := by rw [hy]; exact Int.ediv_le_self _ h3
        have e := and_mod (x := y) 1 (by omega) hy0 (by omega)
        have ez : z = y % 2 := by rw [hz]; exact e
        have hp := p2_pos i
        have ep : p2 (64 - i) = 2 * p2 (63 - i) := by
          have := p2_succ (n := 63 - i) (by omega)
          rw [show 63 - i + 1 = 64 - i by omega] at this
          exact this
        have ev : val a b = b + a * p2 (64 - i) * p2 i := by
          unfold val
          rw [Int.mul_assoc, ← p2_split (by omega) (by omega)]; omega
        rw [ez, hy, ev, Int.add_mul_ediv_right _ _ (by omega), ep, Int.mul_left_comm]
        omega
def rwith_sp : SpecSh := { args := [(.agg [(.int .u64 (.z 0)), (.int .u64 (.z 0))]), (.int .i64 (.z 0))], res := (.agg [(.int .u64 (.z 0)), (.int .u64 (.z 0))]), sh := [.i (some (0, 18446744073709551615)), .i (some (0, 18446744073709551615))] }
set_option maxRecDepth 100000 in
def rwith_tree : Tree :=
.ite (.cmp .le (.z 64) (.v 2)) (.lett (.sub (.v 2) (.z 64)) <|
.lett (.shl .u64 (.z 1) (.v 3)) <|
.lett (.addw .u64 (.v 0) (.v 4)) <|
.ret (.agg [(.int .u64 (.v 5)), (.int .u64 (.v 1))])) <|
.lett (.wrap .u64 (.v 2)) <|
.lett (.shl .u64 (.z 1) (.v 3)) <|
.lett (.addw .u64 (.v 1) (.v 4)) <|
.ret (.agg [(.int .u64 (.v 0)), (.int .u64 (.v 5))])
noncomputable def rwith_cx : Ctx := { tys := tys, fns := fns, sps := [], anns := [], trys := [] }
def rwith_ivs : List (Option (Int × Int)) := [some (0, 18446744073709551615), some (0, 18446744073709551615), some ((-9223372036854775808), 9223372036854775807)]
set_option maxRecDepth 100000 in
theorem rwith_walk : runFn rwith_cx 3000 58 Try.f58 rwith_sp.args rwith_ivs = rwith_tree := by kernel_rfl
noncomputable def rwith_M : Nat → SpecSem
  | _ => noSem
theorem rwith_cxok : CxOK Try.prog rwith_cx rwith_M := ⟨tysOK, fnsOK, fun _ _ h => spNil h, mixedOK, fun _ _ h => trNil h⟩

def rwith_sem : SpecSem := { pre := fun cs => match cs with | [.i a, .i b, .i i] => IsU a ∧ IsU b ∧ (0 ≤ i ∧ i ≤ 127) ∧ val a b % p2 (i + 1) = 0 ∧ val a b + p2 i < 340282366920938463463374607431768211456 | _ => False, out := fun cs => match cs with | [.i a, .i b, .i i] => [.i ((val a b + p2 i) / 18446744073709551616), .i ((val a b + p2 i) % 18446744073709551616)] | _ => [] }
theorem rwith_ok : SpecOK Try.prog 58 rwith_sp rwith_sem := by
  refine spec_of_tree rwith_cxok Try.func58 (by kernel_rfl) (by kernel_rfl) rwith_walk rfl ?_
  intro cs hpre
  match cs, hpre with
  | [.i a, .i b, .i i], ⟨⟨h1, h2⟩, ⟨h3, h4⟩, ⟨h5, h6⟩, h7, h8⟩ =>
    have hpp := p2_pos i
    have hv0 : 0 ≤ val a b := by unfold val; omega
    refine ⟨rfl, IvsB.ok (by simp only [rwith_ivs, IvsB, Cv.int, and_true]; omega), ?_, ?_⟩
    · simp only [rwith_sem, rwith_sp, Fits, and_true]; omega
    · simp only [rwith_sem, rwith_sp, IsU, rwith_tree, Tree.den, List.getElem?_cons_zero, List.getElem?_cons_succ, IE.den, BE.den, At.den, CA.den, Env.get, Cv.int, Cv.bool, List.cons_append, List.nil_append, List.map_cons, List.map_nil, bindRes, bindEq, Fits, SV.den, denL, place, placeL, eq_t, eq_f, lt_t, lt_f, le_t, le_f, beq_iff_eq, beq_eq_false_iff_ne, ne_eq, reduceCtorEq, b_dec, decide_eq_true_eq, decide_eq_false_iff_not, Bool.not_eq_false', Bool.or_eq_true, Bool.or_eq_false_iff, Bool.and_eq_false_iff, true_iff, false_iff, Bool.false_eq_true, Bool.not_eq_true', Bool.and_eq_true, Bool.not_true, Bool.not_false, List.cons.injEq, Cv.i.injEq, Cv.b.injEq, and_true, true_and, agg_inj, tup_inj, Value.int.injEq, Value.bool.injEq]
      refine ⟨fun hi x hx y hy z hz => ?_, fun hi x hx y hy z hz => ?_⟩
      · subst hx
        have hw2 : IntKind.u64.wrap (i - 64) = i - 64 := wu64 (by omega) (by omega)
        try rw [hw2] at hy
        rw [one_shl (by omega) (by omega)] at hy
        have ep : p2 i = 18446744073709551616 * p2 (i - 64) := by
          have := p2_mul (n := 64) (m := i - 64) (by omega) (by omega)
          rw [show 64 + (i - 64) = i by omega] at this
          rw [← this]; rfl
        have hp := p2_63 (i := i - 64) (by omega) (by omega)
        rw [wu64_mod] at hz
        rw [ep] at h8 ⊢
        subst hy
        generalize p2 (i - 64) = p at *
        unfold val at *
        omega
      · try rw [wu64 (by omega) (by omega)] at hx
        rw [hx] at hy
        rw [one_shl (by omega) (by omega)] at hy
        have hp := p2_63 (i := i) (by omega) (by omega)
        rw [wu64_mod] at hz
        subst hy
        have hs := p2_succ (n := i) (by omega)
        have e64 : 18446744073709551616 = p2 (63 - i) * p2 (i + 1) := by
          rw [p2_mul (by omega) (by omega), show 63 - i + (i + 1) = 64 by omega]; rfl
        have hb : b % p2 (i + 1) = 0 := by
          have : val a b = b + a * p2 (63 - i) * p2 (i + 1) := by
            unfold val
            rw [Int.mul_assoc, ← e64]; omega
          rw [this, Int.add_mul_emod_self_right] at h7
          exact h7
        have hlt : b + p2 i < 18446744073709551616 := by
          obtain ⟨k, hk⟩ := Int.dvd_of_emod_eq_zero hb
          have hpos := p2_pos (i + 1)
          have hkm : k < p2 (63 - i) := by
            refine Int.lt_of_mul_lt_mul_right (a := p2 (i + 1)) ?_ (Int.le_of_lt hpos)
            rw [← e64, Int.mul_comm]; omega
          have := Int.mul_le_mul_of_nonneg_right (show k + 1 ≤ p2 (63 - i) by omega) (Int.le_of_lt hpos)
          rw [← e64, Int.add_mul, Int.one_mul, Int.mul_comm k] at this
          omega
        generalize p2 i = p at *
        unfold val at *
        omega
end Go.Proofs.Ytbmfkdammaodpaa.X
