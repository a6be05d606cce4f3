/-
  The contracts of span.Add and span.Sub, for every two spans; SpanTells tells true.
-/
import Derived.Test.YtlhmhcjpdpakkaaSxRef4
namespace Go.Proofs.Ytlhmhcjpdpakkaa.X
open Go Go.SX Go.RowKit
set_option linter.unusedVariables false
set_option linter.unusedSimpArgs false





def salive_sp : SpecSh := { args := [], res := (.bool .f), sh := [.b] }
set_option maxRecDepth 100000 in
def salive_tree : Tree :=
.call 27 [.i (some ((-9223372036854775808), 9223372036854775807)), .i (some ((-9223372036854775808), 9223372036854775807))] [.i (.z (-2)), .i (.z (-1))] <|
.ite (.not (.cmp .eq (.v 1) (.z 0))) (.ret (.bool .f)) <|
.lett (.ite (.cmp .lt (.v 0) (.v 0)) (.v 0) (.v 0)) <|
.lett (.ite (.cmp .lt (.v 0) (.v 0)) (.v 0) (.v 0)) <|
.call 27 [.i (some ((-9223372036854775808), 9223372036854775807)), .i (some ((-9223372036854775808), 9223372036854775807))] [.i (.z (-2)), .i (.z 4)] <|
.ite (.not (.cmp .eq (.v 5) (.z 0))) (.ret (.bool .f)) <|
.lett (.ite (.cmp .lt (.v 4) (.v 2)) (.v 4) (.v 2)) <|
.lett (.ite (.cmp .lt (.v 3) (.v 4)) (.v 4) (.v 3)) <|
.call 27 [.i (some ((-9223372036854775808), 9223372036854775807)), .i (some ((-9223372036854775808), 9223372036854775807))] [.i (.z 3), .i (.z (-1))] <|
.ite (.not (.cmp .eq (.v 9) (.z 0))) (.ret (.bool .f)) <|
.lett (.ite (.cmp .lt (.v 8) (.v 6)) (.v 8) (.v 6)) <|
.lett (.ite (.cmp .lt (.v 7) (.v 8)) (.v 8) (.v 7)) <|
.call 27 [.i (some ((-9223372036854775808), 9223372036854775807)), .i (some ((-9223372036854775808), 9223372036854775807))] [.i (.z 3), .i (.z 4)] <|
.ite (.not (.cmp .eq (.v 13) (.z 0))) (.ret (.bool .f)) <|
.lett (.ite (.cmp .lt (.v 12) (.v 10)) (.v 12) (.v 10)) <|
.lett (.ite (.cmp .lt (.v 11) (.v 12)) (.v 12) (.v 11)) <|
.ite (.cmp .eq (.v 14) (.z (-8))) (.ret (.bool (.cmp .eq (.v 15) (.z 12)))) <|
.ret (.bool .f)
noncomputable def salive_cx : Ctx := { tys := tys, fns := fns, sps := [(27, fmul_sp)], anns := [], trys := [] }
def salive_ivs : List (Option (Int × Int)) := []
set_option maxRecDepth 100000 in
theorem salive_walk : runFn salive_cx 3000 29 Try.f29 salive_sp.args salive_ivs = salive_tree := by kernel_rfl
noncomputable def salive_M : Nat → SpecSem
  | 27 => fmul_sem
  | _ => noSem
theorem salive_M27 : salive_M 27 = fmul_sem := rfl
theorem salive_cxok : CxOK Try.prog salive_cx salive_M := ⟨tysOK, fnsOK, spCons fmul_ok <| fun _ _ h => spNil h, mixedOK, fun _ _ h => trNil h⟩

def salive_sem : SpecSem := { pre := fun cs => match cs with | [] => True | _ => False, out := fun cs => match cs with | [] => [.b true] | _ => [] }
theorem salive_ok : SpecOK Try.prog 29 salive_sp salive_sem := by
  refine spec_of_tree salive_cxok Try.func29 (by kernel_rfl) (by kernel_rfl) salive_walk rfl ?_
  intro cs hpre
  match cs, hpre with
  | [], _ =>
    refine ⟨rfl, IvsB.ok (by simp only [salive_ivs, IvsB, Cv.int, and_true]), ?_, ?_⟩
    · simp only [salive_sem, salive_sp, Fits]
    · simp only [salive_sem, salive_sp, tell, IsU, salive_tree, salive_M27, fmul_sem, Tree.den, LE.den, Cv.list, placeA, List.getElem?_cons_zero, List.getElem?_cons_succ, IE.den, BE.den, At.den, CA.den, Env.get, Cv.int, Cv.bool, List.cons_append, List.nil_append, List.map_cons, List.map_nil, bindRes, bindEq, Fits, SV.den, denL, place, placeL, eq_t, eq_f, lt_t, lt_f, le_t, le_f, beq_iff_eq, beq_eq_false_iff_ne, ne_eq, reduceCtorEq, b_dec, decide_eq_true_eq, decide_eq_false_iff_not, Bool.not_eq_false', Bool.or_eq_true, Bool.or_eq_false_iff, Bool.and_eq_false_iff, true_iff, false_iff, Bool.false_eq_true, Bool.not_eq_true', Bool.and_eq_true, Bool.not_true, Bool.not_false, List.cons.injEq, Cv.i.injEq, Cv.b.injEq, and_true, true_and, agg_inj, tup_inj, Value.int.injEq, Value.bool.injEq]
      simp only [IsI]
      (repeat' (first | intro _ | refine And.intro ?_ ?_ | exact trivial)) <;> omega
/-- a span, or none and why -/
def spT (right : Prop) [Decidable right] (lo hi : Int) : List Cv := [.i (if right ∧ IsI lo ∧ IsI hi then lo else 0), .i (if right ∧ IsI lo ∧ IsI hi then hi else 0), .i (if right then (if IsI lo ∧ IsI hi then 0 else 5) else 1)]
def sadd_sp : SpecSh := { args := [(.agg [(.int .i64 (.z 0)), (.int .i64 (.z 0))]), (.agg [(.int .i64 (.z 0)), (.int .i64 (.z 0))])], res := (.tup [(.agg [(.int .i64 (.z 0)), (.int .i64 (.z 0))]), (.int .i64 (.z 0))]), sh := [.i (some ((-9223372036854775808), 9223372036854775807)), .i (some ((-9223372036854775808), 9223372036854775807)), .i (some ((-9223372036854775808), 9223372036854775807))] }
set_option maxRecDepth 100000 in
def sadd_tree : Tree :=
.ite (.not (.cmp .le (.v 0) (.v 1))) (.ret (.tup [(.agg [(.int .i64 (.z 0)), (.int .i64 (.z 0))]), (.int .i64 (.z 1))])) <|
.ite (.not (.cmp .le (.v 2) (.v 3))) (.ret (.tup [(.agg [(.int .i64 (.z 0)), (.int .i64 (.z 0))]), (.int .i64 (.z 1))])) <|
.call 25 [.i (some ((-9223372036854775808), 9223372036854775807)), .i (some ((-9223372036854775808), 9223372036854775807))] [.i (.v 0), .i (.v 2)] <|
.ite (.not (.cmp .eq (.v 5) (.z 0))) (.ret (.tup [(.agg [(.int .i64 (.z 0)), (.int .i64 (.z 0))]), (.int .i64 (.v 5))])) <|
.lett (.ite (.cmp .lt (.v 4) (.v 4)) (.v 4) (.v 4)) <|
.lett (.ite (.cmp .lt (.v 4) (.v 4)) (.v 4) (.v 4)) <|
.call 25 [.i (some ((-9223372036854775808), 9223372036854775807)), .i (some ((-9223372036854775808), 9223372036854775807))] [.i (.v 0), .i (.v 3)] <|
.ite (.not (.cmp .eq (.v 9) (.z 0))) (.ret (.tup [(.agg [(.int .i64 (.z 0)), (.int .i64 (.z 0))]), (.int .i64 (.v 9))])) <|
.lett (.ite (.cmp .lt (.v 8) (.v 6)) (.v 8) (.v 6)) <|
.lett (.ite (.cmp .lt (.v 7) (.v 8)) (.v 8) (.v 7)) <|
.call 25 [.i (some ((-9223372036854775808), 9223372036854775807)), .i (some ((-9223372036854775808), 9223372036854775807))] [.i (.v 1), .i (.v 2)] <|
.ite (.not (.cmp .eq (.v 13) (.z 0))) (.ret (.tup [(.agg [(.int .i64 (.z 0)), (.int .i64 (.z 0))]), (.int .i64 (.v 13))])) <|
.lett (.ite (.cmp .lt (.v 12) (.v 10)) (.v 12) (.v 10)) <|
.lett (.ite (.cmp .lt (.v 11) (.v 12)) (.v 12) (.v 11)) <|
.call 25 [.i (some ((-9223372036854775808), 9223372036854775807)), .i (some ((-9223372036854775808), 9223372036854775807))] [.i (.v 1), .i (.v 3)] <|
.ite (.not (.cmp .eq (.v 17) (.z 0))) (.ret (.tup [(.agg [(.int .i64 (.z 0)), (.int .i64 (.z 0))]), (.int .i64 (.v 17))])) <|
.lett (.ite (.cmp .lt (.v 16) (.v 14)) (.v 16) (.v 14)) <|
.lett (.ite (.cmp .lt (.v 15) (.v 16)) (.v 16) (.v 15)) <|
.ret (.tup [(.agg [(.int .i64 (.v 18)), (.int .i64 (.v 19))]), (.int .i64 (.z 0))])
noncomputable def sadd_cx : Ctx := { tys := tys, fns := fns, sps := [(25, fadd_sp)], anns := [], trys := [] }
def sadd_ivs : List (Option (Int × Int)) := [some ((-9223372036854775808), 9223372036854775807), some ((-9223372036854775808), 9223372036854775807), some ((-9223372036854775808), 9223372036854775807), some ((-9223372036854775808), 9223372036854775807)]
set_option maxRecDepth 100000 in
theorem sadd_walk : runFn sadd_cx 3000 22 Try.f22 sadd_sp.args sadd_ivs = sadd_tree := by kernel_rfl
noncomputable def sadd_M : Nat → SpecSem
  | 25 => fadd_sem
  | _ => noSem
theorem sadd_M25 : sadd_M 25 = fadd_sem := rfl
theorem sadd_cxok : CxOK Try.prog sadd_cx sadd_M := ⟨tysOK, fnsOK, spCons fadd_ok <| fun _ _ h => spNil h, mixedOK, fun _ _ h => trNil h⟩

def sadd_sem : SpecSem := { pre := fun cs => match cs with | [.i a, .i b, .i c, .i d] => IsI a ∧ IsI b ∧ IsI c ∧ IsI d | _ => False, out := fun cs => match cs with | [.i a, .i b, .i c, .i d] => spT (a ≤ b ∧ c ≤ d) (a + c) (b + d) | _ => [] }
theorem sadd_ok : SpecOK Try.prog 22 sadd_sp sadd_sem := by
  refine spec_of_tree sadd_cxok Try.func22 (by kernel_rfl) (by kernel_rfl) sadd_walk rfl ?_
  intro cs hpre
  match cs, hpre with
  | [.i a, .i b, .i c, .i d], ⟨⟨h1, h2⟩, ⟨h3, h4⟩, ⟨h5, h6⟩, ⟨h7, h8⟩⟩ =>
    refine ⟨rfl, IvsB.ok (by simp only [sadd_ivs, IvsB, Cv.int, and_true]; omega), ?_, ?_⟩
    · simp only [sadd_sem, sadd_sp, spT, Fits, and_true, IsI]; omega
    · simp only [sadd_sem, sadd_sp, spT, tell, sadd_tree, sadd_M25, fadd_sem, Tree.den, LE.den, Cv.list, placeA, List.getElem?_cons_zero, List.getElem?_cons_succ, IE.den, BE.den, At.den, CA.den, Env.get, Cv.int, Cv.bool, List.cons_append, List.nil_append, List.map_cons, List.map_nil, bindRes, bindEq, Fits, SV.den, denL, place, placeL, eq_t, eq_f, lt_t, lt_f, le_t, le_f, beq_iff_eq, beq_eq_false_iff_ne, ne_eq, reduceCtorEq, b_dec, decide_eq_true_eq, decide_eq_false_iff_not, Bool.not_eq_false', Bool.or_eq_true, Bool.or_eq_false_iff, Bool.and_eq_false_iff, true_iff, false_iff, Bool.false_eq_true, Bool.not_eq_true', Bool.and_eq_true, Bool.not_true, Bool.not_false, List.cons.injEq, Cv.i.injEq, Cv.b.injEq, and_true, true_and, agg_inj, tup_inj, Value.int.injEq, Value.bool.injEq]
      simp only [IsI]
      (repeat' (first | intro _ | refine And.intro ?_ ?_ | exact trivial)) <;> omega
def ssub_sp : SpecSh := { args := [(.agg [(.int .i64 (.z 0)), (.int .i64 (.z 0))]), (.agg [(.int .i64 (.z 0)), (.int .i64 (.z 0))])], res := (.tup [(.agg [(.int .i64 (.z 0)), (.int .i64 (.z 0))]), (.int .i64 (.z 0))]), sh := [.i (some ((-9223372036854775808), 9223372036854775807)), .i (some ((-9223372036854775808), 9223372036854775807)), .i (some ((-9223372036854775808), 9223372036854775807))] }
set_option maxRecDepth 100000 in
def ssub_tree : Tree :=
.ite (.not (.cmp .le (.v 0) (.v 1))) (.ret (.tup [(.agg [(.int .i64 (.z 0)), (.int .i64 (.z 0))]), (.int .i64 (.z 1))])) <|
.ite (.not (.cmp .le (.v 2) (.v 3))) (.ret (.tup [(.agg [(.int .i64 (.z 0)), (.int .i64 (.z 0))]), (.int .i64 (.z 1))])) <|
.call 26 [.i (some ((-9223372036854775808), 9223372036854775807)), .i (some ((-9223372036854775808), 9223372036854775807))] [.i (.v 0), .i (.v 2)] <|
.ite (.not (.cmp .eq (.v 5) (.z 0))) (.ret (.tup [(.agg [(.int .i64 (.z 0)), (.int .i64 (.z 0))]), (.int .i64 (.v 5))])) <|
.lett (.ite (.cmp .lt (.v 4) (.v 4)) (.v 4) (.v 4)) <|
.lett (.ite (.cmp .lt (.v 4) (.v 4)) (.v 4) (.v 4)) <|
.call 26 [.i (some ((-9223372036854775808), 9223372036854775807)), .i (some ((-9223372036854775808), 9223372036854775807))] [.i (.v 0), .i (.v 3)] <|
.ite (.not (.cmp .eq (.v 9) (.z 0))) (.ret (.tup [(.agg [(.int .i64 (.z 0)), (.int .i64 (.z 0))]), (.int .i64 (.v 9))])) <|
.lett (.ite (.cmp .lt (.v 8) (.v 6)) (.v 8) (.v 6)) <|
.lett (.ite (.cmp .lt (.v 7) (.v 8)) (.v 8) (.v 7)) <|
.call 26 [.i (some ((-9223372036854775808), 9223372036854775807)), .i (some ((-9223372036854775808), 9223372036854775807))] [.i (.v 1), .i (.v 2)] <|
.ite (.not (.cmp .eq (.v 13) (.z 0))) (.ret (.tup [(.agg [(.int .i64 (.z 0)), (.int .i64 (.z 0))]), (.int .i64 (.v 13))])) <|
.lett (.ite (.cmp .lt (.v 12) (.v 10)) (.v 12) (.v 10)) <|
.lett (.ite (.cmp .lt (.v 11) (.v 12)) (.v 12) (.v 11)) <|
.call 26 [.i (some ((-9223372036854775808), 9223372036854775807)), .i (some ((-9223372036854775808), 9223372036854775807))] [.i (.v 1), .i (.v 3)] <|
.ite (.not (.cmp .eq (.v 17) (.z 0))) (.ret (.tup [(.agg [(.int .i64 (.z 0)), (.int .i64 (.z 0))]), (.int .i64 (.v 17))])) <|
.lett (.ite (.cmp .lt (.v 16) (.v 14)) (.v 16) (.v 14)) <|
.lett (.ite (.cmp .lt (.v 15) (.v 16)) (.v 16) (.v 15)) <|
.ret (.tup [(.agg [(.int .i64 (.v 18)), (.int .i64 (.v 19))]), (.int .i64 (.z 0))])
noncomputable def ssub_cx : Ctx := { tys := tys, fns := fns, sps := [(26, fsub_sp)], anns := [], trys := [] }
def ssub_ivs : List (Option (Int × Int)) := [some ((-9223372036854775808), 9223372036854775807), some ((-9223372036854775808), 9223372036854775807), some ((-9223372036854775808), 9223372036854775807), some ((-9223372036854775808), 9223372036854775807)]
set_option maxRecDepth 100000 in
theorem ssub_walk : runFn ssub_cx 3000 23 Try.f23 ssub_sp.args ssub_ivs = ssub_tree := by kernel_rfl
noncomputable def ssub_M : Nat → SpecSem
  | 26 => fsub_sem
  | _ => noSem
theorem ssub_M26 : ssub_M 26 = fsub_sem := rfl
theorem ssub_cxok : CxOK Try.prog ssub_cx ssub_M := ⟨tysOK, fnsOK, spCons fsub_ok <| fun _ _ h => spNil h, mixedOK, fun _ _ h => trNil h⟩

def ssub_sem : SpecSem := { pre := fun cs => match cs with | [.i a, .i b, .i c, .i d] => IsI a ∧ IsI b ∧ IsI c ∧ IsI d | _ => False, out := fun cs => match cs with | [.i a, .i b, .i c, .i d] => spT (a ≤ b ∧ c ≤ d) (a - d) (b - c) | _ => [] }
theorem ssub_ok : SpecOK Try.prog 23 ssub_sp ssub_sem := by
  refine spec_of_tree ssub_cxok Try.func23 (by kernel_rfl) (by kernel_rfl) ssub_walk rfl ?_
  intro cs hpre
  match cs, hpre with
  | [.i a, .i b, .i c, .i d], ⟨⟨h1, h2⟩, ⟨h3, h4⟩, ⟨h5, h6⟩, ⟨h7, h8⟩⟩ =>
    refine ⟨rfl, IvsB.ok (by simp only [ssub_ivs, IvsB, Cv.int, and_true]; omega), ?_, ?_⟩
    · simp only [ssub_sem, ssub_sp, spT, Fits, and_true, IsI]; omega
    · simp only [ssub_sem, ssub_sp, spT, tell, ssub_tree, ssub_M26, fsub_sem, Tree.den, LE.den, Cv.list, placeA, List.getElem?_cons_zero, List.getElem?_cons_succ, IE.den, BE.den, At.den, CA.den, Env.get, Cv.int, Cv.bool, List.cons_append, List.nil_append, List.map_cons, List.map_nil, bindRes, bindEq, Fits, SV.den, denL, place, placeL, eq_t, eq_f, lt_t, lt_f, le_t, le_f, beq_iff_eq, beq_eq_false_iff_ne, ne_eq, reduceCtorEq, b_dec, decide_eq_true_eq, decide_eq_false_iff_not, Bool.not_eq_false', Bool.or_eq_true, Bool.or_eq_false_iff, Bool.and_eq_false_iff, true_iff, false_iff, Bool.false_eq_true, Bool.not_eq_true', Bool.and_eq_true, Bool.not_true, Bool.not_false, List.cons.injEq, Cv.i.injEq, Cv.b.injEq, and_true, true_and, agg_inj, tup_inj, Value.int.injEq, Value.bool.injEq]
      simp only [IsI]
      (repeat' (first | intro _ | refine And.intro ?_ ?_ | exact trivial)) <;> omega
end Go.Proofs.Ytlhmhcjpdpakkaa.X
