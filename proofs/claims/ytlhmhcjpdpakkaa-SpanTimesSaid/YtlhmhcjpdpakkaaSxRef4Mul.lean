/-
  The contract of the reference's products of ints (datumref04.Mul), for every two ints.
-/
import Derived.Test.YtlhmhcjpdpakkaaSxRef4M
namespace Go.Proofs.Ytlhmhcjpdpakkaa.X
open Go Go.SX Go.RowKit
set_option linter.unusedVariables false
set_option linter.unusedSimpArgs false

def r4mul_sp : SpecSh := { args := [(.int .i64 (.z 0)), (.int .i64 (.z 0))], res := (.tup [(.int .i64 (.z 0)), (.int .i64 (.z 0))]), sh := [.i (some ((-9223372036854775808), 9223372036854775807)), .i (some ((-9223372036854775808), 9223372036854775807))] }
set_option maxRecDepth 100000 in
def r4mul_tree : Tree :=
.call 131 [.b, .i (some (0, 18446744073709551615)), .i (some (0, 18446744073709551615))] [.i (.v 0), .i (.v 1)] <|
.ite (.cmp .lt (.z 0) (.v 3)) (.ret (.tup [(.int .i64 (.z 0)), (.int .i64 (.z 5))])) <|
.ite (.cmp .lt (.z 9223372036854775808) (.v 4)) (.ret (.tup [(.int .i64 (.z 0)), (.int .i64 (.z 5))])) <|
.ite (.cmp .eq (.v 4) (.z 9223372036854775808)) (.ite (.not (.v 2)) (.ret (.tup [(.int .i64 (.z 0)), (.int .i64 (.z 5))])) <|
.ret (.tup [(.int .i64 (.z (-9223372036854775808))), (.int .i64 (.z 0))])) <|
.ite (.v 2) (.lett (.sub (.z 0) (.v 4)) <|
.ret (.tup [(.int .i64 (.v 5)), (.int .i64 (.z 0))])) <|
.ret (.tup [(.int .i64 (.v 4)), (.int .i64 (.z 0))])
noncomputable def r4mul_cx : Ctx := { tys := tys, fns := fns, sps := [(131, r4prod_sp)], anns := [], trys := [] }
def r4mul_ivs : List (Option (Int × Int)) := [some ((-9223372036854775808), 9223372036854775807), some ((-9223372036854775808), 9223372036854775807)]
set_option maxRecDepth 100000 in
theorem r4mul_walk : runFn r4mul_cx 3000 122 Try.f122 r4mul_sp.args r4mul_ivs = r4mul_tree := by kernel_rfl
noncomputable def r4mul_M : Nat → SpecSem
  | 131 => r4prod_sem
  | _ => noSem
theorem r4mul_M131 : r4mul_M 131 = r4prod_sem := rfl
theorem r4mul_cxok : CxOK Try.prog r4mul_cx r4mul_M := ⟨tysOK, fnsOK, spCons r4prod_ok <| fun _ _ h => spNil h, mixedOK, fun _ _ h => trNil h⟩

def r4mul_sem : SpecSem := { pre := fun cs => match cs with | [.i a, .i b] => IsI a ∧ IsI b | _ => False, out := fun cs => match cs with | [.i a, .i b] => tell (a * b) | _ => [] }
theorem r4mul_ok : SpecOK Try.prog 122 r4mul_sp r4mul_sem := by
  refine spec_of_tree r4mul_cxok Try.func122 (by kernel_rfl) (by kernel_rfl) r4mul_walk rfl ?_
  intro cs hpre
  match cs, hpre with
  | [.i a, .i b], ⟨h1, h2⟩ =>
    have hp := r4abs h1 h2
    have g1 : IsI a := h1
    have g2 : IsI b := h2
    unfold IsI at h1 h2
    refine ⟨rfl, IvsB.ok (by simp only [r4mul_ivs, IvsB, Cv.int, and_true]; omega), ?_, ?_⟩
    · simp only [r4mul_sem, r4mul_sp, tell, Fits, and_true]; have := tell_fits (a * b); omega
    · simp only [r4mul_sem, r4prod_sem, tell, r4mul_sp, IsU, r4mul_tree, r4mul_M131, r4prod_sem, Tree.den, List.getElem?_cons_zero, List.getElem?_cons_succ, IE.den, BE.den, At.den, CA.den, Env.get, Cv.int, Cv.bool, List.cons_append, List.nil_append, List.map_cons, List.map_nil, bindRes, bindEq, Fits, SV.den, denL, place, placeL, eq_t, eq_f, lt_t, lt_f, le_t, le_f, beq_iff_eq, beq_eq_false_iff_ne, ne_eq, reduceCtorEq, b_dec, decide_eq_true_eq, decide_eq_false_iff_not, Bool.not_eq_false', Bool.or_eq_true, Bool.or_eq_false_iff, Bool.and_eq_false_iff, true_iff, false_iff, Bool.false_eq_true, Bool.not_eq_true', Bool.and_eq_true, Bool.not_true, Bool.not_false, List.cons.injEq, Cv.i.injEq, Cv.b.injEq, and_true, true_and, agg_inj, tup_inj, Value.int.injEq, Value.bool.injEq]
      refine ⟨⟨g1, g2⟩, ?_⟩
      intro p1 hp1 _ _ p0 hp0 _ _
      have hs := sgn_mul (a := a) (b := b)
      simp only [decide_eq_true_eq] at hs
      generalize absZ a * absZ b = P at *
      generalize a * b = Q at *
      simp only [IsI, wi64, wu64_mod]
      (repeat' (first | intro _ | refine And.intro ?_ ?_ | exact trivial)) <;> omega
end Go.Proofs.Ytlhmhcjpdpakkaa.X
