/-
  The contracts of span.Join and of the reference's spans (datumref05.Add, Sub), for every two spans.
-/
import Derived.Test.YtlhmhcjpdpakkaaSxSpan
import Derived.Test.YtlhmhcjpdpakkaaSxRef4
import Derived.Test.YtlhmhcjpdpakkaaSxRef4Mul
namespace Go.Proofs.Ytlhmhcjpdpakkaa.X
open Go Go.SX Go.RowKit
set_option linter.unusedVariables false
set_option linter.unusedSimpArgs false



def sjoin_sp : SpecSh := { args := [(.agg [(.int .i64 (.z 0)), (.int .i64 (.z 0))]), (.agg [(.int .i64 (.z 0)), (.int .i64 (.z 0))])], res := (.tup [(.agg [(.int .i64 (.z 0)), (.int .i64 (.z 0))]), (.int .i64 (.z 0))]), sh := [.i (some ((-9223372036854775808), 9223372036854775807)), .i (some ((-9223372036854775808), 9223372036854775807)), .i (some ((-9223372036854775808), 9223372036854775807))] }
set_option maxRecDepth 100000 in
def sjoin_tree : Tree :=
.ite (.not (.cmp .le (.v 0) (.v 1))) (.ret (.tup [(.agg [(.int .i64 (.z 0)), (.int .i64 (.z 0))]), (.int .i64 (.z 1))])) <|
.ite (.not (.cmp .le (.v 2) (.v 3))) (.ret (.tup [(.agg [(.int .i64 (.z 0)), (.int .i64 (.z 0))]), (.int .i64 (.z 1))])) <|
.lett (.ite (.cmp .lt (.v 2) (.v 0)) (.v 2) (.v 0)) <|
.lett (.ite (.cmp .lt (.v 1) (.v 3)) (.v 3) (.v 1)) <|
.ret (.tup [(.agg [(.int .i64 (.v 4)), (.int .i64 (.v 5))]), (.int .i64 (.z 0))])
noncomputable def sjoin_cx : Ctx := { tys := tys, fns := fns, sps := [], anns := [], trys := [] }
def sjoin_ivs : List (Option (Int × Int)) := [some ((-9223372036854775808), 9223372036854775807), some ((-9223372036854775808), 9223372036854775807), some ((-9223372036854775808), 9223372036854775807), some ((-9223372036854775808), 9223372036854775807)]
set_option maxRecDepth 100000 in
theorem sjoin_walk : runFn sjoin_cx 3000 30 Try.f30 sjoin_sp.args sjoin_ivs = sjoin_tree := by kernel_rfl
noncomputable def sjoin_M : Nat → SpecSem
  | _ => noSem
theorem sjoin_cxok : CxOK Try.prog sjoin_cx sjoin_M := ⟨tysOK, fnsOK, fun _ _ h => spNil h, mixedOK, fun _ _ h => trNil h⟩

def sjoin_sem : SpecSem := { pre := fun cs => match cs with | [.i a, .i b, .i c, .i d] => IsI a ∧ IsI b ∧ IsI c ∧ IsI d | _ => False, out := fun cs => match cs with | [.i a, .i b, .i c, .i d] => [.i (if a ≤ b ∧ c ≤ d then min a c else 0), .i (if a ≤ b ∧ c ≤ d then max b d else 0), .i (if a ≤ b ∧ c ≤ d then 0 else 1)] | _ => [] }
set_option maxHeartbeats 16000000 in
theorem sjoin_ok : SpecOK Try.prog 30 sjoin_sp sjoin_sem := by
  refine spec_of_tree sjoin_cxok Try.func30 (by kernel_rfl) (by kernel_rfl) sjoin_walk rfl ?_
  intro cs hpre
  match cs, hpre with
  | [.i a, .i b, .i c, .i d], ⟨j_a, j_b, j_c, j_d⟩ =>
    have h_a := j_a
    unfold IsI at h_a
    have h_b := j_b
    unfold IsI at h_b
    have h_c := j_c
    unfold IsI at h_c
    have h_d := j_d
    unfold IsI at h_d
    refine ⟨rfl, IvsB.ok (by simp only [sjoin_ivs, IvsB, Cv.int, and_true] <;> omega), ?_, ?_⟩
    · simp only [sjoin_sem, sjoin_sp, Fits, and_true]; omega
    · simp only [sjoin_sem, sjoin_sp, sjoin_tree, Tree.den, List.getElem?_cons_zero, List.getElem?_cons_succ, IE.den, BE.den, At.den, CA.den, Env.get, Cv.int, Cv.bool, List.cons_append, List.nil_append, List.map_cons, List.map_nil, bindRes, bindEq, Fits, SV.den, denL, place, placeL, eq_t, eq_f, lt_t, lt_f, le_t, le_f, beq_iff_eq, beq_eq_false_iff_ne, ne_eq, reduceCtorEq, b_dec, decide_eq_true_eq, decide_eq_false_iff_not, Bool.not_eq_false', Bool.or_eq_true, Bool.or_eq_false_iff, Bool.and_eq_false_iff, true_iff, false_iff, Bool.false_eq_true, Bool.not_eq_true', Bool.and_eq_true, Bool.not_true, Bool.not_false, List.cons.injEq, Cv.i.injEq, Cv.b.injEq, and_true, true_and, agg_inj, tup_inj, Value.int.injEq, Value.bool.injEq]
      (repeat' (first | intro _ | refine And.intro ?_ ?_ | exact trivial)) <;> omega
def r5add_sp : SpecSh := { args := [(.agg [(.int .i64 (.z 0)), (.int .i64 (.z 0))]), (.agg [(.int .i64 (.z 0)), (.int .i64 (.z 0))])], res := (.tup [(.agg [(.int .i64 (.z 0)), (.int .i64 (.z 0))]), (.int .i64 (.z 0))]), sh := [.i (some ((-9223372036854775808), 9223372036854775807)), .i (some ((-9223372036854775808), 9223372036854775807)), .i (some ((-9223372036854775808), 9223372036854775807))] }
set_option maxRecDepth 100000 in
def r5add_tree : Tree :=
.call 97 [.i (some ((-9223372036854775808), 9223372036854775807)), .i (some ((-9223372036854775808), 9223372036854775807))] [.i (.v 0), .i (.v 2)] <|
.call 97 [.i (some ((-9223372036854775808), 9223372036854775807)), .i (some ((-9223372036854775808), 9223372036854775807))] [.i (.v 1), .i (.v 3)] <|
.ite (.not (.cmp .eq (.v 5) (.z 0))) (.ret (.tup [(.agg [(.int .i64 (.z 0)), (.int .i64 (.z 0))]), (.int .i64 (.v 5))])) <|
.ite (.not (.cmp .eq (.v 7) (.z 0))) (.ret (.tup [(.agg [(.int .i64 (.z 0)), (.int .i64 (.z 0))]), (.int .i64 (.v 7))])) <|
.ret (.tup [(.agg [(.int .i64 (.v 4)), (.int .i64 (.v 6))]), (.int .i64 (.z 0))])
noncomputable def r5add_cx : Ctx := { tys := tys, fns := fns, sps := [(97, r4add_sp)], anns := [], trys := [] }
def r5add_ivs : List (Option (Int × Int)) := [some ((-9223372036854775808), 9223372036854775807), some ((-9223372036854775808), 9223372036854775807), some ((-9223372036854775808), 9223372036854775807), some ((-9223372036854775808), 9223372036854775807)]
set_option maxRecDepth 100000 in
theorem r5add_walk : runFn r5add_cx 3000 35 Try.f35 r5add_sp.args r5add_ivs = r5add_tree := by kernel_rfl
noncomputable def r5add_M : Nat → SpecSem
  | 97 => r4add_sem
  | _ => noSem
theorem r5add_M97 : r5add_M 97 = r4add_sem := rfl
theorem r5add_cxok : CxOK Try.prog r5add_cx r5add_M := ⟨tysOK, fnsOK, spCons r4add_ok <| fun _ _ h => spNil h, mixedOK, fun _ _ h => trNil h⟩

def r5add_sem : SpecSem := { pre := fun cs => match cs with | [.i a, .i b, .i c, .i d] => IsI a ∧ IsI b ∧ IsI c ∧ IsI d | _ => False, out := fun cs => match cs with | [.i a, .i b, .i c, .i d] => spT True (a + c) (b + d) | _ => [] }
set_option maxHeartbeats 16000000 in
theorem r5add_ok : SpecOK Try.prog 35 r5add_sp r5add_sem := by
  refine spec_of_tree r5add_cxok Try.func35 (by kernel_rfl) (by kernel_rfl) r5add_walk rfl ?_
  intro cs hpre
  match cs, hpre with
  | [.i a, .i b, .i c, .i d], ⟨j_a, j_b, j_c, j_d⟩ =>
    have h_a := j_a
    unfold IsI at h_a
    have h_b := j_b
    unfold IsI at h_b
    have h_c := j_c
    unfold IsI at h_c
    have h_d := j_d
    unfold IsI at h_d
    refine ⟨rfl, IvsB.ok (by simp only [r5add_ivs, IvsB, Cv.int, and_true] <;> omega), ?_, ?_⟩
    · simp only [r5add_sem, r5add_sp, spT, Fits, and_true, true_and, IsI]; omega
    · simp only [r5add_sem, r5add_sp, spT, tell, r5add_tree, r5add_M97, r4add_sem, Tree.den, List.getElem?_cons_zero, List.getElem?_cons_succ, IE.den, BE.den, At.den, CA.den, Env.get, Cv.int, Cv.bool, List.cons_append, List.nil_append, List.map_cons, List.map_nil, bindRes, bindEq, Fits, SV.den, denL, place, placeL, eq_t, eq_f, lt_t, lt_f, le_t, le_f, beq_iff_eq, beq_eq_false_iff_ne, ne_eq, reduceCtorEq, b_dec, decide_eq_true_eq, decide_eq_false_iff_not, Bool.not_eq_false', Bool.or_eq_true, Bool.or_eq_false_iff, Bool.and_eq_false_iff, true_iff, false_iff, Bool.false_eq_true, Bool.not_eq_true', Bool.and_eq_true, Bool.not_true, Bool.not_false, List.cons.injEq, Cv.i.injEq, Cv.b.injEq, and_true, true_and, agg_inj, tup_inj, Value.int.injEq, Value.bool.injEq]
      by_cases i1 : IsI (a + c) <;> by_cases i2 : IsI (b + d) <;> simp only [j_a, j_b, j_c, j_d, i1, i2, if_true, if_false, true_and, and_true, false_and, and_false, true_or, or_true, false_or, or_false, true_iff, iff_true, false_iff, iff_false, not_true_eq_false, not_false_eq_true, true_implies, false_implies, implies_true, forall_const, decide_true, decide_false, reduceCtorEq] <;> (try ((repeat' (first | intro _ | refine And.intro ?_ ?_ | exact trivial)) <;> omega))
def r5sub_sp : SpecSh := { args := [(.agg [(.int .i64 (.z 0)), (.int .i64 (.z 0))]), (.agg [(.int .i64 (.z 0)), (.int .i64 (.z 0))])], res := (.tup [(.agg [(.int .i64 (.z 0)), (.int .i64 (.z 0))]), (.int .i64 (.z 0))]), sh := [.i (some ((-9223372036854775808), 9223372036854775807)), .i (some ((-9223372036854775808), 9223372036854775807)), .i (some ((-9223372036854775808), 9223372036854775807))] }
set_option maxRecDepth 100000 in
def r5sub_tree : Tree :=
.call 99 [.i (some ((-9223372036854775808), 9223372036854775807)), .i (some ((-9223372036854775808), 9223372036854775807))] [.i (.v 0), .i (.v 3)] <|
.call 99 [.i (some ((-9223372036854775808), 9223372036854775807)), .i (some ((-9223372036854775808), 9223372036854775807))] [.i (.v 1), .i (.v 2)] <|
.ite (.not (.cmp .eq (.v 5) (.z 0))) (.ret (.tup [(.agg [(.int .i64 (.z 0)), (.int .i64 (.z 0))]), (.int .i64 (.v 5))])) <|
.ite (.not (.cmp .eq (.v 7) (.z 0))) (.ret (.tup [(.agg [(.int .i64 (.z 0)), (.int .i64 (.z 0))]), (.int .i64 (.v 7))])) <|
.ret (.tup [(.agg [(.int .i64 (.v 4)), (.int .i64 (.v 6))]), (.int .i64 (.z 0))])
noncomputable def r5sub_cx : Ctx := { tys := tys, fns := fns, sps := [(99, r4sub_sp)], anns := [], trys := [] }
def r5sub_ivs : List (Option (Int × Int)) := [some ((-9223372036854775808), 9223372036854775807), some ((-9223372036854775808), 9223372036854775807), some ((-9223372036854775808), 9223372036854775807), some ((-9223372036854775808), 9223372036854775807)]
set_option maxRecDepth 100000 in
theorem r5sub_walk : runFn r5sub_cx 3000 36 Try.f36 r5sub_sp.args r5sub_ivs = r5sub_tree := by kernel_rfl
noncomputable def r5sub_M : Nat → SpecSem
  | 99 => r4sub_sem
  | _ => noSem
theorem r5sub_M99 : r5sub_M 99 = r4sub_sem := rfl
theorem r5sub_cxok : CxOK Try.prog r5sub_cx r5sub_M := ⟨tysOK, fnsOK, spCons r4sub_ok <| fun _ _ h => spNil h, mixedOK, fun _ _ h => trNil h⟩

def r5sub_sem : SpecSem := { pre := fun cs => match cs with | [.i a, .i b, .i c, .i d] => IsI a ∧ IsI b ∧ IsI c ∧ IsI d | _ => False, out := fun cs => match cs with | [.i a, .i b, .i c, .i d] => spT True (a - d) (b - c) | _ => [] }
set_option maxHeartbeats 16000000 in
theorem r5sub_ok : SpecOK Try.prog 36 r5sub_sp r5sub_sem := by
  refine spec_of_tree r5sub_cxok Try.func36 (by kernel_rfl) (by kernel_rfl) r5sub_walk rfl ?_
  intro cs hpre
  match cs, hpre with
  | [.i a, .i b, .i c, .i d], ⟨j_a, j_b, j_c, j_d⟩ =>
    have h_a := j_a
    unfold IsI at h_a
    have h_b := j_b
    unfold IsI at h_b
    have h_c := j_c
    unfold IsI at h_c
    have h_d := j_d
    unfold IsI at h_d
    refine ⟨rfl, IvsB.ok (by simp only [r5sub_ivs, IvsB, Cv.int, and_true] <;> omega), ?_, ?_⟩
    · simp only [r5sub_sem, r5sub_sp, spT, Fits, and_true, true_and, IsI]; omega
    · simp only [r5sub_sem, r5sub_sp, spT, tell, r5sub_tree, r5sub_M99, r4sub_sem, Tree.den, List.getElem?_cons_zero, List.getElem?_cons_succ, IE.den, BE.den, At.den, CA.den, Env.get, Cv.int, Cv.bool, List.cons_append, List.nil_append, List.map_cons, List.map_nil, bindRes, bindEq, Fits, SV.den, denL, place, placeL, eq_t, eq_f, lt_t, lt_f, le_t, le_f, beq_iff_eq, beq_eq_false_iff_ne, ne_eq, reduceCtorEq, b_dec, decide_eq_true_eq, decide_eq_false_iff_not, Bool.not_eq_false', Bool.or_eq_true, Bool.or_eq_false_iff, Bool.and_eq_false_iff, true_iff, false_iff, Bool.false_eq_true, Bool.not_eq_true', Bool.and_eq_true, Bool.not_true, Bool.not_false, List.cons.injEq, Cv.i.injEq, Cv.b.injEq, and_true, true_and, agg_inj, tup_inj, Value.int.injEq, Value.bool.injEq]
      by_cases i1 : IsI (a - d) <;> by_cases i2 : IsI (b - c) <;> simp only [j_a, j_b, j_c, j_d, i1, i2, if_true, if_false, true_and, and_true, false_and, and_false, true_or, or_true, false_or, or_false, true_iff, iff_true, false_iff, iff_false, not_true_eq_false, not_false_eq_true, true_implies, false_implies, implies_true, forall_const, decide_true, decide_false, reduceCtorEq] <;> (try ((repeat' (first | intro _ | refine And.intro ?_ ?_ | exact trivial)) <;> omega))
end Go.Proofs.Ytlhmhcjpdpakkaa.X
