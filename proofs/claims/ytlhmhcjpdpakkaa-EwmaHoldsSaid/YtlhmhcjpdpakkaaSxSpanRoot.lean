/-
  The contract of span.Root, for every span.
-/
import Derived.Test.YtlhmhcjpdpakkaaSxSpan
import Derived.Test.YtlhmhcjpdpakkaaSxRoot
namespace Go.Proofs.Ytlhmhcjpdpakkaa.X
open Go Go.SX Go.RowKit
set_option linter.unusedVariables false
set_option linter.unusedSimpArgs false
theorem val0r (x : Int) : val 0 x = x := by unfold val; omega


def sroot_sp : SpecSh := { args := [(.agg [(.int .i64 (.z 0)), (.int .i64 (.z 0))])], res := (.tup [(.agg [(.int .i64 (.z 0)), (.int .i64 (.z 0))]), (.int .i64 (.z 0))]), sh := [.i (some ((-9223372036854775808), 9223372036854775807)), .i (some ((-9223372036854775808), 9223372036854775807)), .i (some ((-9223372036854775808), 9223372036854775807))] }
set_option maxRecDepth 100000 in
def sroot_tree : Tree :=
.ite (.not (.cmp .le (.v 0) (.v 1))) (.ret (.tup [(.agg [(.int .i64 (.z 0)), (.int .i64 (.z 0))]), (.int .i64 (.z 1))])) <|
.ite (.cmp .lt (.v 0) (.z 0)) (.ret (.tup [(.agg [(.int .i64 (.z 0)), (.int .i64 (.z 0))]), (.int .i64 (.z 3))])) <|
.lett (.wrap .u64 (.v 1)) <|
.call 117 [.i (some (0, 18446744073709551615)), .i (some (0, 18446744073709551615))] [.i (.z 0), .i (.v 2)] <|
.lett (.wrap .i64 (.v 4)) <|
.call 118 [.i (some (0, 18446744073709551615))] [.i (.z 0), .i (.v 0)] <|
.lett (.wrap .i64 (.v 6)) <|
.ret (.tup [(.agg [(.int .i64 (.v 7)), (.int .i64 (.v 5))]), (.int .i64 (.z 0))])
noncomputable def sroot_cx : Ctx := { tys := tys, fns := fns, sps := [(118, wroot_sp), (117, wup_sp)], anns := [], trys := [] }
def sroot_ivs : List (Option (Int × Int)) := [some ((-9223372036854775808), 9223372036854775807), some ((-9223372036854775808), 9223372036854775807)]
set_option maxRecDepth 100000 in
theorem sroot_walk : runFn sroot_cx 3000 50 Try.f50 sroot_sp.args sroot_ivs = sroot_tree := by kernel_rfl
noncomputable def sroot_M : Nat → SpecSem
  | 118 => wroot_sem
  | 117 => wup_sem
  | _ => noSem
theorem sroot_M118 : sroot_M 118 = wroot_sem := rfl
theorem sroot_M117 : sroot_M 117 = wup_sem := rfl
theorem sroot_cxok : CxOK Try.prog sroot_cx sroot_M := ⟨tysOK, fnsOK, spCons wroot_ok <| spCons wup_ok <| fun _ _ h => spNil h, mixedOK, fun _ _ h => trNil h⟩

def sroot_sem : SpecSem := { pre := fun cs => match cs with | [.i a, .i b] => IsI a ∧ IsI b | _ => False, out := fun cs => match cs with | [.i a, .i b] => [.i (if a ≤ b ∧ 0 ≤ a then rootZ a else 0), .i (if a ≤ b ∧ 0 ≤ a then upZ b else 0), .i (if a ≤ b then (if 0 ≤ a then 0 else 3) else 1)] | _ => [] }
theorem root_i {a : Int} (h0 : 0 ≤ a) (h : a ≤ 9223372036854775807) : (0 ≤ rootZ a ∧ rootZ a ≤ 4294967295) ∧ (0 ≤ upZ a ∧ upZ a ≤ 4294967296) := by
  have h1 := rootZ_small h0 (by omega)
  have h2 := (rootZ_spec h0).1
  refine ⟨⟨h2, h1⟩, ?_⟩
  unfold upZ; split <;> omega
theorem sroot_ok : SpecOK Try.prog 50 sroot_sp sroot_sem := by
  refine spec_of_tree sroot_cxok Try.func50 (by kernel_rfl) (by kernel_rfl) sroot_walk rfl ?_
  intro cs hpre
  match cs, hpre with
  | [.i a, .i b], ⟨⟨h1, h2⟩, ⟨h3, h4⟩⟩ =>
    refine ⟨rfl, IvsB.ok (by simp only [sroot_ivs, IvsB, Cv.int, and_true]; omega), ?_, ?_⟩
    · simp only [sroot_sem, sroot_sp, Fits, and_true]
      by_cases hr : a ≤ b ∧ 0 ≤ a
      · have r1 := root_i hr.2 h2
        have r2 := root_i (a := b) (by omega) h4
        simp only [hr, if_true, if_false, true_and, and_true, false_and, and_false, true_or, or_true, false_or, or_false, true_iff, iff_true, false_iff, iff_false, not_true_eq_false, not_false_eq_true, true_implies, false_implies, implies_true, forall_const, decide_true, decide_false, reduceCtorEq]; omega
      · simp only [hr, if_true, if_false, true_and, and_true, false_and, and_false, true_or, or_true, false_or, or_false, true_iff, iff_true, false_iff, iff_false, not_true_eq_false, not_false_eq_true, true_implies, false_implies, implies_true, forall_const, decide_true, decide_false, reduceCtorEq]; omega
    · simp only [sroot_sem, wroot_sem, wup_sem, sroot_sp, sroot_tree, sroot_M118, wroot_sem, sroot_M117, wup_sem, Tree.den, LE.den, Cv.list, placeA, List.getElem?_cons_zero, List.getElem?_cons_succ, IE.den, BE.den, At.den, CA.den, Env.get, Cv.int, Cv.bool, List.cons_append, List.nil_append, List.map_cons, List.map_nil, bindRes, bindEq, Fits, SV.den, denL, place, placeL, eq_t, eq_f, lt_t, lt_f, le_t, le_f, beq_iff_eq, beq_eq_false_iff_ne, ne_eq, reduceCtorEq, b_dec, decide_eq_true_eq, decide_eq_false_iff_not, Bool.not_eq_false', Bool.or_eq_true, Bool.or_eq_false_iff, Bool.and_eq_false_iff, true_iff, false_iff, Bool.false_eq_true, Bool.not_eq_true', Bool.and_eq_true, Bool.not_true, Bool.not_false, List.cons.injEq, Cv.i.injEq, Cv.b.injEq, and_true, true_and, agg_inj, tup_inj, Value.int.injEq, Value.bool.injEq]
      by_cases hr1 : a ≤ b
      · by_cases hr2 : 0 ≤ a
        · have r1 := root_i hr2 h2
          have r2 := root_i (a := b) (by omega) h4
          have wb : IntKind.u64.wrap b = b := wu64 (by omega) (by omega)
          simp only [hr1, hr2, wb, val0r, if_true, if_false, true_and, and_true, false_and, and_false, true_or, or_true, false_or, or_false, true_iff, iff_true, false_iff, iff_false, not_true_eq_false, not_false_eq_true, true_implies, false_implies, implies_true, forall_const, decide_true, decide_false, reduceCtorEq]
          refine ⟨fun h => by omega, fun h => by omega, ?_⟩
          intro x hx
          rw [hx]
          clear hx
          refine ⟨⟨⟨by omega, by omega⟩, ⟨by omega, by omega⟩⟩, ?_⟩
          intro x1 hx1 _ _ x2 hx2 _ _
          have e2 : x2 = upZ b := by omega
          have w2 : IntKind.i64.wrap (upZ b) = upZ b := w64 (by omega) (by omega)
          have w1 : IntKind.i64.wrap (rootZ a) = rootZ a := w64 (by omega) (by omega)
          rw [e2, w2]
          intro x hx
          subst hx
          refine ⟨⟨⟨by omega, by omega⟩, ⟨by omega, by omega⟩⟩, ?_⟩
          intro x3 hx3 _ _
          subst hx3
          rw [w1]
          (repeat' (first | intro _ | refine And.intro ?_ ?_ | exact trivial)) <;> omega
        · simp only [hr1, hr2, if_true, if_false, true_and, and_true, false_and, and_false, true_or, or_true, false_or, or_false, true_iff, iff_true, false_iff, iff_false, not_true_eq_false, not_false_eq_true, true_implies, false_implies, implies_true, forall_const, decide_true, decide_false, reduceCtorEq]
          (repeat' (first | intro _ | refine And.intro ?_ ?_ | exact trivial)) <;> omega
      · simp only [hr1, if_true, if_false, true_and, and_true, false_and, and_false, true_or, or_true, false_or, or_false, true_iff, iff_true, false_iff, iff_false, not_true_eq_false, not_false_eq_true, true_implies, false_implies, implies_true, forall_const, decide_true, decide_false, reduceCtorEq]
end Go.Proofs.Ytlhmhcjpdpakkaa.X
