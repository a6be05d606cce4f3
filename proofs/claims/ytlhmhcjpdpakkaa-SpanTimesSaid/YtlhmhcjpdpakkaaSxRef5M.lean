/-
  The contracts of the reference's products, quotients and roots of spans (datumref05.Mul, Div, Root), for every two spans.
-/
import Derived.Test.YtlhmhcjpdpakkaaSxRef5
import Derived.Test.YtlhmhcjpdpakkaaSxRef4M
import Derived.Test.YtlhmhcjpdpakkaaSxRefRoot
import Derived.Test.YtlhmhcjpdpakkaaSxSpanMul
import Derived.Test.YtlhmhcjpdpakkaaSxSpanRoot
namespace Go.Proofs.Ytlhmhcjpdpakkaa.X
open Go Go.SX Go.RowKit
set_option linter.unusedVariables false
set_option linter.unusedSimpArgs false




def r5mul_sp : SpecSh := { args := [(.agg [(.int .i64 (.z 0)), (.int .i64 (.z 0))]), (.agg [(.int .i64 (.z 0)), (.int .i64 (.z 0))])], res := (.tup [(.agg [(.int .i64 (.z 0)), (.int .i64 (.z 0))]), (.int .i64 (.z 0))]), sh := [.i (some ((-9223372036854775808), 9223372036854775807)), .i (some ((-9223372036854775808), 9223372036854775807)), .i (some ((-9223372036854775808), 9223372036854775807))] }
set_option maxRecDepth 100000 in
def r5mul_tree : Tree :=
.call 122 [.i (some ((-9223372036854775808), 9223372036854775807)), .i (some ((-9223372036854775808), 9223372036854775807))] [.i (.v 0), .i (.v 2)] <|
.ite (.not (.cmp .eq (.v 5) (.z 0))) (.ret (.tup [(.agg [(.int .i64 (.z 0)), (.int .i64 (.z 0))]), (.int .i64 (.v 5))])) <|
.call 122 [.i (some ((-9223372036854775808), 9223372036854775807)), .i (some ((-9223372036854775808), 9223372036854775807))] [.i (.v 0), .i (.v 3)] <|
.ite (.not (.cmp .eq (.v 7) (.z 0))) (.ret (.tup [(.agg [(.int .i64 (.z 0)), (.int .i64 (.z 0))]), (.int .i64 (.v 7))])) <|
.lett (.ite (.cmp .lt (.v 6) (.v 4)) (.v 6) (.v 4)) <|
.lett (.ite (.cmp .lt (.v 6) (.v 4)) (.v 6) (.v 4)) <|
.lett (.ite (.cmp .lt (.v 4) (.v 6)) (.v 6) (.v 4)) <|
.lett (.ite (.cmp .lt (.v 4) (.v 6)) (.v 6) (.v 4)) <|
.call 122 [.i (some ((-9223372036854775808), 9223372036854775807)), .i (some ((-9223372036854775808), 9223372036854775807))] [.i (.v 1), .i (.v 2)] <|
.ite (.not (.cmp .eq (.v 13) (.z 0))) (.ret (.tup [(.agg [(.int .i64 (.z 0)), (.int .i64 (.z 0))]), (.int .i64 (.v 13))])) <|
.lett (.ite (.cmp .lt (.v 12) (.v 9)) (.v 12) (.v 8)) <|
.lett (.ite (.cmp .lt (.v 12) (.v 9)) (.v 12) (.v 9)) <|
.lett (.ite (.cmp .lt (.v 11) (.v 12)) (.v 12) (.v 10)) <|
.lett (.ite (.cmp .lt (.v 11) (.v 12)) (.v 12) (.v 11)) <|
.call 122 [.i (some ((-9223372036854775808), 9223372036854775807)), .i (some ((-9223372036854775808), 9223372036854775807))] [.i (.v 1), .i (.v 3)] <|
.ite (.not (.cmp .eq (.v 19) (.z 0))) (.ret (.tup [(.agg [(.int .i64 (.z 0)), (.int .i64 (.z 0))]), (.int .i64 (.v 19))])) <|
.lett (.ite (.cmp .lt (.v 18) (.v 15)) (.v 18) (.v 14)) <|
.lett (.ite (.cmp .lt (.v 18) (.v 15)) (.v 18) (.v 15)) <|
.lett (.ite (.cmp .lt (.v 17) (.v 18)) (.v 18) (.v 16)) <|
.lett (.ite (.cmp .lt (.v 17) (.v 18)) (.v 18) (.v 17)) <|
.ret (.tup [(.agg [(.int .i64 (.v 21)), (.int .i64 (.v 23))]), (.int .i64 (.z 0))])
noncomputable def r5mul_cx : Ctx := { tys := tys, fns := fns, sps := [(122, r4mul_sp)], anns := [], trys := [] }
def r5mul_ivs : List (Option (Int × Int)) := [some ((-9223372036854775808), 9223372036854775807), some ((-9223372036854775808), 9223372036854775807), some ((-9223372036854775808), 9223372036854775807), some ((-9223372036854775808), 9223372036854775807)]
set_option maxRecDepth 100000 in
theorem r5mul_walk : runFn r5mul_cx 3000 52 Try.f52 r5mul_sp.args r5mul_ivs = r5mul_tree := by kernel_rfl
noncomputable def r5mul_M : Nat → SpecSem
  | 122 => r4mul_sem
  | _ => noSem
theorem r5mul_M122 : r5mul_M 122 = r4mul_sem := rfl
theorem r5mul_cxok : CxOK Try.prog r5mul_cx r5mul_M := ⟨tysOK, fnsOK, spCons r4mul_ok <| fun _ _ h => spNil h, mixedOK, fun _ _ h => trNil h⟩

def r5mul_sem : SpecSem := { pre := fun cs => match cs with | [.i a, .i b, .i c, .i d] => IsI a ∧ IsI b ∧ IsI c ∧ IsI d | _ => False, out := fun cs => match cs with | [.i a, .i b, .i c, .i d] => spT True (mn4 (a * c) (a * d) (b * c) (b * d)) (mx4 (a * c) (a * d) (b * c) (b * d)) | _ => [] }
set_option maxHeartbeats 16000000 in
theorem r5mul_ok : SpecOK Try.prog 52 r5mul_sp r5mul_sem := by
  refine spec_of_tree r5mul_cxok Try.func52 (by kernel_rfl) (by kernel_rfl) r5mul_walk rfl ?_
  intro cs hpre
  match cs, hpre with
  | [.i a, .i b, .i c, .i d], ⟨j_a, j_b, j_c, j_d⟩ =>
    have h_a := j_a
    unfold IsI at h_a
    have h_b := j_b
    unfold IsI at h_b
    have h_c := j_c
    unfold IsI at h_c
    have h_d := j_d
    unfold IsI at h_d
    refine ⟨rfl, IvsB.ok (by simp only [r5mul_ivs, IvsB, Cv.int, and_true] <;> omega), ?_, ?_⟩
    · simp only [r5mul_sem, r5mul_sp, spT, Fits, and_true, true_and, IsI]; generalize mn4 (a * c) (a * d) (b * c) (b * d) = lo; generalize mx4 (a * c) (a * d) (b * c) (b * d) = hi; omega
    · simp only [r5mul_sem, r5mul_sp, spT, tell, r5mul_tree, r5mul_M122, r4mul_sem, Tree.den, List.getElem?_cons_zero, List.getElem?_cons_succ, IE.den, BE.den, At.den, CA.den, Env.get, Cv.int, Cv.bool, List.cons_append, List.nil_append, List.map_cons, List.map_nil, bindRes, bindEq, Fits, SV.den, denL, place, placeL, eq_t, eq_f, lt_t, lt_f, le_t, le_f, beq_iff_eq, beq_eq_false_iff_ne, ne_eq, reduceCtorEq, b_dec, decide_eq_true_eq, decide_eq_false_iff_not, Bool.not_eq_false', Bool.or_eq_true, Bool.or_eq_false_iff, Bool.and_eq_false_iff, true_iff, false_iff, Bool.false_eq_true, Bool.not_eq_true', Bool.and_eq_true, Bool.not_true, Bool.not_false, List.cons.injEq, Cv.i.injEq, Cv.b.injEq, and_true, true_and, agg_inj, tup_inj, Value.int.injEq, Value.bool.injEq]
      simp only [fits4, true_and]
      generalize a * c = p
      generalize a * d = q
      generalize b * c = r
      generalize b * d = s
      by_cases i1 : IsI p <;> by_cases i2 : IsI q <;> by_cases i3 : IsI r <;> by_cases i4 : IsI s
      all_goals
        simp only [j_a, j_b, j_c, j_d, i1, i2, i3, i4, if_true, if_false, true_and, and_true, false_and, and_false, true_or, or_true, false_or, or_false, true_iff, iff_true, false_iff, iff_false, not_true_eq_false, not_false_eq_true, true_implies, false_implies, implies_true, forall_const, decide_true, decide_false, reduceCtorEq]
        first
          | (unfold mn4 mx4; (repeat' (first | intro _ | refine And.intro ?_ ?_ | exact trivial)) <;> omega)
          | (repeat' (first | intro _ | refine And.intro ?_ ?_ | exact trivial)) <;> omega
def r5root_sp : SpecSh := { args := [(.agg [(.int .i64 (.z 0)), (.int .i64 (.z 0))])], res := (.agg [(.int .i64 (.z 0)), (.int .i64 (.z 0))]), sh := [.i (some ((-9223372036854775808), 9223372036854775807)), .i (some ((-9223372036854775808), 9223372036854775807))] }
set_option maxRecDepth 100000 in
def r5root_tree : Tree :=
.lett (.wrap .u64 (.v 0)) <|
.lett (.wrap .u64 (.v 1)) <|
.call 119 [.i (some (0, 18446744073709551615))] [.i (.z 0), .i (.v 2)] <|
.lett (.wrap .i64 (.v 4)) <|
.call 120 [.i (some (0, 18446744073709551615)), .i (some (0, 18446744073709551615))] [.i (.z 0), .i (.v 3)] <|
.lett (.wrap .i64 (.v 7)) <|
.ret (.agg [(.int .i64 (.v 5)), (.int .i64 (.v 8))])
noncomputable def r5root_cx : Ctx := { tys := tys, fns := fns, sps := [(119, rroot_sp), (120, rup_sp)], anns := [], trys := [] }
def r5root_ivs : List (Option (Int × Int)) := [some ((-9223372036854775808), 9223372036854775807), some ((-9223372036854775808), 9223372036854775807)]
set_option maxRecDepth 100000 in
theorem r5root_walk : runFn r5root_cx 3000 51 Try.f51 r5root_sp.args r5root_ivs = r5root_tree := by kernel_rfl
noncomputable def r5root_M : Nat → SpecSem
  | 119 => rroot_sem
  | 120 => rup_sem
  | _ => noSem
theorem r5root_M119 : r5root_M 119 = rroot_sem := rfl
theorem r5root_M120 : r5root_M 120 = rup_sem := rfl
theorem r5root_cxok : CxOK Try.prog r5root_cx r5root_M := ⟨tysOK, fnsOK, spCons rroot_ok <| spCons rup_ok <| fun _ _ h => spNil h, mixedOK, fun _ _ h => trNil h⟩

def r5root_sem : SpecSem := { pre := fun cs => match cs with | [.i a, .i b] => IsI a ∧ IsI b ∧ (0 ≤ a ∧ a ≤ b) | _ => False, out := fun cs => match cs with | [.i a, .i b] => [.i (rootZ a), .i (upZ b)] | _ => [] }
set_option maxHeartbeats 16000000 in
theorem r5root_ok : SpecOK Try.prog 51 r5root_sp r5root_sem := by
  refine spec_of_tree r5root_cxok Try.func51 (by kernel_rfl) (by kernel_rfl) r5root_walk rfl ?_
  intro cs hpre
  match cs, hpre with
  | [.i a, .i b], ⟨j_a, j_b, hx⟩ =>
    have h_a := j_a
    unfold IsI at h_a
    have h_b := j_b
    unfold IsI at h_b
    refine ⟨rfl, IvsB.ok (by simp only [r5root_ivs, IvsB, Cv.int, and_true] <;> omega), ?_, ?_⟩
    · simp only [r5root_sem, r5root_sp, Fits, and_true]
      have r1 := root_i hx.1 h_a.2
      have r2 := root_i (a := b) (by omega) h_b.2
      omega
    · simp only [r5root_sem, r5root_sp, wup_sem, r5root_tree, r5root_M119, rroot_sem, r5root_M120, rup_sem, Tree.den, List.getElem?_cons_zero, List.getElem?_cons_succ, IE.den, BE.den, At.den, CA.den, Env.get, Cv.int, Cv.bool, List.cons_append, List.nil_append, List.map_cons, List.map_nil, bindRes, bindEq, Fits, SV.den, denL, place, placeL, eq_t, eq_f, lt_t, lt_f, le_t, le_f, beq_iff_eq, beq_eq_false_iff_ne, ne_eq, reduceCtorEq, b_dec, decide_eq_true_eq, decide_eq_false_iff_not, Bool.not_eq_false', Bool.or_eq_true, Bool.or_eq_false_iff, Bool.and_eq_false_iff, true_iff, false_iff, Bool.false_eq_true, Bool.not_eq_true', Bool.and_eq_true, Bool.not_true, Bool.not_false, List.cons.injEq, Cv.i.injEq, Cv.b.injEq, and_true, true_and, agg_inj, tup_inj, Value.int.injEq, Value.bool.injEq]
      have r1 := root_i hx.1 h_a.2
      have r2 := root_i (a := b) (by omega) h_b.2
      have wa : IntKind.u64.wrap a = a := wu64 (by omega) (by omega)
      have wb : IntKind.u64.wrap b = b := wu64 (by omega) (by omega)
      have e1 : upZ b % 18446744073709551616 = upZ b := by omega
      have w1 : IntKind.i64.wrap (rootZ a) = rootZ a := w64 (by omega) (by omega)
      have w2 : IntKind.i64.wrap (upZ b) = upZ b := w64 (by omega) (by omega)
      simp only [wa, wb, w1, w2, e1, val0r, IsU, forall_eq, if_true, if_false, true_and, and_true, false_and, and_false, true_or, or_true, false_or, or_false, true_iff, iff_true, false_iff, iff_false, not_true_eq_false, not_false_eq_true, true_implies, false_implies, implies_true, forall_const, decide_true, decide_false, reduceCtorEq]
      (repeat' (first | intro _ | refine And.intro ?_ ?_ | exact trivial)) <;> omega
def r5div_sp : SpecSh := { args := [(.agg [(.int .i64 (.z 0)), (.int .i64 (.z 0))]), (.agg [(.int .i64 (.z 0)), (.int .i64 (.z 0))])], res := (.tup [(.agg [(.int .i64 (.z 0)), (.int .i64 (.z 0))]), (.int .i64 (.z 0))]), sh := [.i (some ((-9223372036854775808), 9223372036854775807)), .i (some ((-9223372036854775808), 9223372036854775807)), .i (some ((-9223372036854775808), 9223372036854775807))] }
set_option maxRecDepth 100000 in
def r5div_tree : Tree :=
.call 123 [.i (some ((-9223372036854775808), 9223372036854775807)), .i (some ((-9223372036854775808), 9223372036854775807))] [.i (.v 0), .i (.z 1), .i (.v 2), .i (.z 0)] <|
.call 123 [.i (some ((-9223372036854775808), 9223372036854775807)), .i (some ((-9223372036854775808), 9223372036854775807))] [.i (.v 0), .i (.z 1), .i (.v 2), .i (.z 1)] <|
.ite (.not (.cmp .eq (.v 5) (.z 0))) (.ret (.tup [(.agg [(.int .i64 (.z 0)), (.int .i64 (.z 0))]), (.int .i64 (.z 5))])) <|
.ite (.not (.cmp .eq (.v 7) (.z 0))) (.ret (.tup [(.agg [(.int .i64 (.z 0)), (.int .i64 (.z 0))]), (.int .i64 (.z 5))])) <|
.call 123 [.i (some ((-9223372036854775808), 9223372036854775807)), .i (some ((-9223372036854775808), 9223372036854775807))] [.i (.v 0), .i (.z 1), .i (.v 3), .i (.z 0)] <|
.call 123 [.i (some ((-9223372036854775808), 9223372036854775807)), .i (some ((-9223372036854775808), 9223372036854775807))] [.i (.v 0), .i (.z 1), .i (.v 3), .i (.z 1)] <|
.ite (.not (.cmp .eq (.v 9) (.z 0))) (.ret (.tup [(.agg [(.int .i64 (.z 0)), (.int .i64 (.z 0))]), (.int .i64 (.z 5))])) <|
.ite (.not (.cmp .eq (.v 11) (.z 0))) (.ret (.tup [(.agg [(.int .i64 (.z 0)), (.int .i64 (.z 0))]), (.int .i64 (.z 5))])) <|
.lett (.ite (.cmp .lt (.v 8) (.v 4)) (.v 8) (.v 4)) <|
.lett (.ite (.cmp .lt (.v 8) (.v 4)) (.v 8) (.v 4)) <|
.lett (.ite (.cmp .lt (.v 6) (.v 10)) (.v 10) (.v 6)) <|
.lett (.ite (.cmp .lt (.v 6) (.v 10)) (.v 10) (.v 6)) <|
.call 123 [.i (some ((-9223372036854775808), 9223372036854775807)), .i (some ((-9223372036854775808), 9223372036854775807))] [.i (.v 1), .i (.z 1), .i (.v 2), .i (.z 0)] <|
.call 123 [.i (some ((-9223372036854775808), 9223372036854775807)), .i (some ((-9223372036854775808), 9223372036854775807))] [.i (.v 1), .i (.z 1), .i (.v 2), .i (.z 1)] <|
.ite (.not (.cmp .eq (.v 17) (.z 0))) (.ret (.tup [(.agg [(.int .i64 (.z 0)), (.int .i64 (.z 0))]), (.int .i64 (.z 5))])) <|
.ite (.not (.cmp .eq (.v 19) (.z 0))) (.ret (.tup [(.agg [(.int .i64 (.z 0)), (.int .i64 (.z 0))]), (.int .i64 (.z 5))])) <|
.lett (.ite (.cmp .lt (.v 16) (.v 13)) (.v 16) (.v 12)) <|
.lett (.ite (.cmp .lt (.v 16) (.v 13)) (.v 16) (.v 13)) <|
.lett (.ite (.cmp .lt (.v 15) (.v 18)) (.v 18) (.v 14)) <|
.lett (.ite (.cmp .lt (.v 15) (.v 18)) (.v 18) (.v 15)) <|
.call 123 [.i (some ((-9223372036854775808), 9223372036854775807)), .i (some ((-9223372036854775808), 9223372036854775807))] [.i (.v 1), .i (.z 1), .i (.v 3), .i (.z 0)] <|
.call 123 [.i (some ((-9223372036854775808), 9223372036854775807)), .i (some ((-9223372036854775808), 9223372036854775807))] [.i (.v 1), .i (.z 1), .i (.v 3), .i (.z 1)] <|
.ite (.not (.cmp .eq (.v 25) (.z 0))) (.ret (.tup [(.agg [(.int .i64 (.z 0)), (.int .i64 (.z 0))]), (.int .i64 (.z 5))])) <|
.ite (.not (.cmp .eq (.v 27) (.z 0))) (.ret (.tup [(.agg [(.int .i64 (.z 0)), (.int .i64 (.z 0))]), (.int .i64 (.z 5))])) <|
.lett (.ite (.cmp .lt (.v 24) (.v 21)) (.v 24) (.v 20)) <|
.lett (.ite (.cmp .lt (.v 24) (.v 21)) (.v 24) (.v 21)) <|
.lett (.ite (.cmp .lt (.v 23) (.v 26)) (.v 26) (.v 22)) <|
.lett (.ite (.cmp .lt (.v 23) (.v 26)) (.v 26) (.v 23)) <|
.ret (.tup [(.agg [(.int .i64 (.v 29)), (.int .i64 (.v 31))]), (.int .i64 (.z 0))])
noncomputable def r5div_cx : Ctx := { tys := tys, fns := fns, sps := [(123, r4md_sp)], anns := [], trys := [] }
def r5div_ivs : List (Option (Int × Int)) := [some ((-9223372036854775808), 9223372036854775807), some ((-9223372036854775808), 9223372036854775807), some ((-9223372036854775808), 9223372036854775807), some ((-9223372036854775808), 9223372036854775807)]
set_option maxRecDepth 100000 in
theorem r5div_walk : runFn r5div_cx 3000 53 Try.f53 r5div_sp.args r5div_ivs = r5div_tree := by kernel_rfl
noncomputable def r5div_M : Nat → SpecSem
  | 123 => r4md_sem
  | _ => noSem
theorem r5div_M123 : r5div_M 123 = r4md_sem := rfl
theorem r5div_cxok : CxOK Try.prog r5div_cx r5div_M := ⟨tysOK, fnsOK, spCons r4md_ok <| fun _ _ h => spNil h, mixedOK, fun _ _ h => trNil h⟩
set_option maxRecDepth 100000 in
set_option maxHeartbeats 8000000 in
theorem r5div_den (R RP : Value → Prop) (F : Ex → St → Js → Env → Prop) (J : Js) (x0 : Int) (x1 : Int) (x2 : Int) (x3 : Int) : Tree.den r5div_M R RP F r5div_tree J [(.i x0), (.i x1), (.i x2), (.i x3)] = (
  (r4md_sem.pre [(.i x0), (.i (1 : Int)), (.i x2), (.i (0 : Int))]) ∧ (
∀ x4 : Int, x4 = (Cv.int (Env.get (r4md_sem.out [(.i x0), (.i (1 : Int)), (.i x2), (.i (0 : Int))]) 0)) → (-9223372036854775808 : Int) ≤ x4 → x4 ≤ (9223372036854775807 : Int) →
∀ x5 : Int, x5 = (Cv.int (Env.get (r4md_sem.out [(.i x0), (.i (1 : Int)), (.i x2), (.i (0 : Int))]) 1)) → (-9223372036854775808 : Int) ≤ x5 → x5 ≤ (9223372036854775807 : Int) →
(r4md_sem.pre [(.i x0), (.i (1 : Int)), (.i x2), (.i (1 : Int))]) ∧ (
∀ x6 : Int, x6 = (Cv.int (Env.get (r4md_sem.out [(.i x0), (.i (1 : Int)), (.i x2), (.i (1 : Int))]) 0)) → (-9223372036854775808 : Int) ≤ x6 → x6 ≤ (9223372036854775807 : Int) →
∀ x7 : Int, x7 = (Cv.int (Env.get (r4md_sem.out [(.i x0), (.i (1 : Int)), (.i x2), (.i (1 : Int))]) 1)) → (-9223372036854775808 : Int) ≤ x7 → x7 ≤ (9223372036854775807 : Int) →
((!(Cmp.den .eq x5 (0 : Int))) = true → R (Value.tuple [(Value.agg [(Value.int .i64 (0 : Int)), (Value.int .i64 (0 : Int))].toArray), (Value.int .i64 (5 : Int))].toArray)) ∧ ((!(Cmp.den .eq x5 (0 : Int))) = false → ((!(Cmp.den .eq x7 (0 : Int))) = true → R (Value.tuple [(Value.agg [(Value.int .i64 (0 : Int)), (Value.int .i64 (0 : Int))].toArray), (Value.int .i64 (5 : Int))].toArray)) ∧ ((!(Cmp.den .eq x7 (0 : Int))) = false → (r4md_sem.pre [(.i x0), (.i (1 : Int)), (.i x3), (.i (0 : Int))]) ∧ (
∀ x8 : Int, x8 = (Cv.int (Env.get (r4md_sem.out [(.i x0), (.i (1 : Int)), (.i x3), (.i (0 : Int))]) 0)) → (-9223372036854775808 : Int) ≤ x8 → x8 ≤ (9223372036854775807 : Int) →
∀ x9 : Int, x9 = (Cv.int (Env.get (r4md_sem.out [(.i x0), (.i (1 : Int)), (.i x3), (.i (0 : Int))]) 1)) → (-9223372036854775808 : Int) ≤ x9 → x9 ≤ (9223372036854775807 : Int) →
(r4md_sem.pre [(.i x0), (.i (1 : Int)), (.i x3), (.i (1 : Int))]) ∧ (
∀ x10 : Int, x10 = (Cv.int (Env.get (r4md_sem.out [(.i x0), (.i (1 : Int)), (.i x3), (.i (1 : Int))]) 0)) → (-9223372036854775808 : Int) ≤ x10 → x10 ≤ (9223372036854775807 : Int) →
∀ x11 : Int, x11 = (Cv.int (Env.get (r4md_sem.out [(.i x0), (.i (1 : Int)), (.i x3), (.i (1 : Int))]) 1)) → (-9223372036854775808 : Int) ≤ x11 → x11 ≤ (9223372036854775807 : Int) →
((!(Cmp.den .eq x9 (0 : Int))) = true → R (Value.tuple [(Value.agg [(Value.int .i64 (0 : Int)), (Value.int .i64 (0 : Int))].toArray), (Value.int .i64 (5 : Int))].toArray)) ∧ ((!(Cmp.den .eq x9 (0 : Int))) = false → ((!(Cmp.den .eq x11 (0 : Int))) = true → R (Value.tuple [(Value.agg [(Value.int .i64 (0 : Int)), (Value.int .i64 (0 : Int))].toArray), (Value.int .i64 (5 : Int))].toArray)) ∧ ((!(Cmp.den .eq x11 (0 : Int))) = false → ∀ x12 : Int, x12 = (if (Cmp.den .lt x8 x4) = true then x8 else x4) →
∀ x13 : Int, x13 = (if (Cmp.den .lt x8 x4) = true then x8 else x4) →
∀ x14 : Int, x14 = (if (Cmp.den .lt x6 x10) = true then x10 else x6) →
∀ x15 : Int, x15 = (if (Cmp.den .lt x6 x10) = true then x10 else x6) →
(r4md_sem.pre [(.i x1), (.i (1 : Int)), (.i x2), (.i (0 : Int))]) ∧ (
∀ x16 : Int, x16 = (Cv.int (Env.get (r4md_sem.out [(.i x1), (.i (1 : Int)), (.i x2), (.i (0 : Int))]) 0)) → (-9223372036854775808 : Int) ≤ x16 → x16 ≤ (9223372036854775807 : Int) →
∀ x17 : Int, x17 = (Cv.int (Env.get (r4md_sem.out [(.i x1), (.i (1 : Int)), (.i x2), (.i (0 : Int))]) 1)) → (-9223372036854775808 : Int) ≤ x17 → x17 ≤ (9223372036854775807 : Int) →
(r4md_sem.pre [(.i x1), (.i (1 : Int)), (.i x2), (.i (1 : Int))]) ∧ (
∀ x18 : Int, x18 = (Cv.int (Env.get (r4md_sem.out [(.i x1), (.i (1 : Int)), (.i x2), (.i (1 : Int))]) 0)) → (-9223372036854775808 : Int) ≤ x18 → x18 ≤ (9223372036854775807 : Int) →
∀ x19 : Int, x19 = (Cv.int (Env.get (r4md_sem.out [(.i x1), (.i (1 : Int)), (.i x2), (.i (1 : Int))]) 1)) → (-9223372036854775808 : Int) ≤ x19 → x19 ≤ (9223372036854775807 : Int) →
((!(Cmp.den .eq x17 (0 : Int))) = true → R (Value.tuple [(Value.agg [(Value.int .i64 (0 : Int)), (Value.int .i64 (0 : Int))].toArray), (Value.int .i64 (5 : Int))].toArray)) ∧ ((!(Cmp.den .eq x17 (0 : Int))) = false → ((!(Cmp.den .eq x19 (0 : Int))) = true → R (Value.tuple [(Value.agg [(Value.int .i64 (0 : Int)), (Value.int .i64 (0 : Int))].toArray), (Value.int .i64 (5 : Int))].toArray)) ∧ ((!(Cmp.den .eq x19 (0 : Int))) = false → ∀ x20 : Int, x20 = (if (Cmp.den .lt x16 x13) = true then x16 else x12) →
∀ x21 : Int, x21 = (if (Cmp.den .lt x16 x13) = true then x16 else x13) →
∀ x22 : Int, x22 = (if (Cmp.den .lt x15 x18) = true then x18 else x14) →
∀ x23 : Int, x23 = (if (Cmp.den .lt x15 x18) = true then x18 else x15) →
(r4md_sem.pre [(.i x1), (.i (1 : Int)), (.i x3), (.i (0 : Int))]) ∧ (
∀ x24 : Int, x24 = (Cv.int (Env.get (r4md_sem.out [(.i x1), (.i (1 : Int)), (.i x3), (.i (0 : Int))]) 0)) → (-9223372036854775808 : Int) ≤ x24 → x24 ≤ (9223372036854775807 : Int) →
∀ x25 : Int, x25 = (Cv.int (Env.get (r4md_sem.out [(.i x1), (.i (1 : Int)), (.i x3), (.i (0 : Int))]) 1)) → (-9223372036854775808 : Int) ≤ x25 → x25 ≤ (9223372036854775807 : Int) →
(r4md_sem.pre [(.i x1), (.i (1 : Int)), (.i x3), (.i (1 : Int))]) ∧ (
∀ x26 : Int, x26 = (Cv.int (Env.get (r4md_sem.out [(.i x1), (.i (1 : Int)), (.i x3), (.i (1 : Int))]) 0)) → (-9223372036854775808 : Int) ≤ x26 → x26 ≤ (9223372036854775807 : Int) →
∀ x27 : Int, x27 = (Cv.int (Env.get (r4md_sem.out [(.i x1), (.i (1 : Int)), (.i x3), (.i (1 : Int))]) 1)) → (-9223372036854775808 : Int) ≤ x27 → x27 ≤ (9223372036854775807 : Int) →
((!(Cmp.den .eq x25 (0 : Int))) = true → R (Value.tuple [(Value.agg [(Value.int .i64 (0 : Int)), (Value.int .i64 (0 : Int))].toArray), (Value.int .i64 (5 : Int))].toArray)) ∧ ((!(Cmp.den .eq x25 (0 : Int))) = false → ((!(Cmp.den .eq x27 (0 : Int))) = true → R (Value.tuple [(Value.agg [(Value.int .i64 (0 : Int)), (Value.int .i64 (0 : Int))].toArray), (Value.int .i64 (5 : Int))].toArray)) ∧ ((!(Cmp.den .eq x27 (0 : Int))) = false → ∀ x28 : Int, x28 = (if (Cmp.den .lt x24 x21) = true then x24 else x20) →
∀ x29 : Int, x29 = (if (Cmp.den .lt x24 x21) = true then x24 else x21) →
∀ x30 : Int, x30 = (if (Cmp.den .lt x23 x26) = true then x26 else x22) →
∀ x31 : Int, x31 = (if (Cmp.den .lt x23 x26) = true then x26 else x23) →
R (Value.tuple [(Value.agg [(Value.int .i64 x29), (Value.int .i64 x31)].toArray), (Value.int .i64 (0 : Int))].toArray)))))))))))))))))) := by kernel_rfl

def r5div_sem : SpecSem := { pre := fun cs => match cs with | [.i a, .i b, .i c, .i d] => IsI a ∧ IsI b ∧ IsI c ∧ IsI d ∧ ((a ≤ b ∧ c ≤ d) ∧ ¬(c ≤ 0 ∧ 0 ≤ d)) | _ => False, out := fun cs => match cs with | [.i a, .i b, .i c, .i d] => [.i (qLo a b c d), .i (qHi a b c d), .i (qEr a b c d)] | _ => [] }
set_option maxHeartbeats 16000000 in
theorem r5div_ok : SpecOK Try.prog 53 r5div_sp r5div_sem := by
  refine spec_of_tree r5div_cxok Try.func53 (by kernel_rfl) (by kernel_rfl) r5div_walk rfl ?_
  intro cs hpre
  match cs, hpre with
  | [.i a, .i b, .i c, .i d], ⟨j_a, j_b, j_c, j_d, hx⟩ =>
    have h_a := j_a
    unfold IsI at h_a
    have h_b := j_b
    unfold IsI at h_b
    have h_c := j_c
    unfold IsI at h_c
    have h_d := j_d
    unfold IsI at h_d
    refine ⟨rfl, IvsB.ok (by simp only [r5div_ivs, IvsB, Cv.int, and_true] <;> omega), ?_, ?_⟩
    · simp only [r5div_sem, r5div_sp, Fits, and_true]; obtain ⟨⟨u1, u2⟩, ⟨u3, u4⟩, u5, u6⟩ := q_rng a b c d; omega
    · rw [r5div_den]
      simp only [r5div_sem, r5div_sp, tell, r5div_den, r4md_sem, Tree.den, List.getElem?_cons_zero, List.getElem?_cons_succ, IE.den, BE.den, At.den, CA.den, Env.get, Cv.int, Cv.bool, List.cons_append, List.nil_append, List.map_cons, List.map_nil, bindRes, bindEq, Fits, SV.den, denL, place, placeL, eq_t, eq_f, lt_t, lt_f, le_t, le_f, beq_iff_eq, beq_eq_false_iff_ne, ne_eq, reduceCtorEq, b_dec, decide_eq_true_eq, decide_eq_false_iff_not, Bool.not_eq_false', Bool.or_eq_true, Bool.or_eq_false_iff, Bool.and_eq_false_iff, true_iff, false_iff, Bool.false_eq_true, Bool.not_eq_true', Bool.and_eq_true, Bool.not_true, Bool.not_false, List.cons.injEq, Cv.i.injEq, Cv.b.injEq, and_true, true_and, agg_inj, tup_inj, Value.int.injEq, Value.bool.injEq]
      have i0 : IsI 0 := by decide
      have i1 : IsI 1 := by decide
      obtain ⟨hr, hz⟩ := hx
      have c0 : c ≠ 0 := by omega
      have d0 : d ≠ 0 := by omega
      have m0 : ∀ x y : Int, mdZ x 1 y 0 = dnZ x y := fun _ _ => rfl
      have m1 : ∀ x y : Int, mdZ x 1 y 1 = upD x y := fun _ _ => rfl
      have l1 := dn_up (x := a) c0
      have l2 := dn_up (x := a) d0
      have l3 := dn_up (x := b) c0
      have l4 := dn_up (x := b) d0
      have F := fits8 l1 l2 l3 l4
      have K0 := q_over hr hz
      have K1 := q_fits hr hz
      unfold qOK at K0 K1
      rw [F] at K0 K1
      generalize qLo a b c d = L at *
      generalize qHi a b c d = H at *
      generalize qEr a b c d = E at *
      simp only [m0, m1, c0, d0, j_a, j_b, j_c, j_d, i0, i1, Int.reduceLE, ne_eq, not_false_eq_true, if_true, if_false, true_and, and_true, false_and, and_false, true_or, or_true, false_or, or_false, true_iff, iff_true, false_iff, iff_false, not_true_eq_false, not_false_eq_true, true_implies, false_implies, implies_true, forall_const, decide_true, decide_false, reduceCtorEq]
      clear c0 d0 F j_a j_b j_c j_d
      generalize dnZ a c = p at *
      generalize dnZ a d = q at *
      generalize dnZ b c = r at *
      generalize dnZ b d = s at *
      generalize upD a c = p' at *
      generalize upD a d = q' at *
      generalize upD b c = r' at *
      generalize upD b d = s' at *
      by_cases k0 : IsI p
      · skip
        by_cases k1 : IsI p'
        · skip
          by_cases k2 : IsI q
          · skip
            by_cases k3 : IsI q'
            · skip
              by_cases k4 : IsI r
              · skip
                by_cases k5 : IsI r'
                · skip
                  by_cases k6 : IsI s
                  · skip
                    by_cases k7 : IsI s'
                    · skip
                      have K := K1 ⟨k0, k1, k2, k3, k4, k5, k6, k7⟩
                      simp only [k0, k1, k2, k3, k4, k5, k6, k7, f50, f00, forall_eq, eq_self, if_true, if_false, true_and, and_true, false_and, and_false, true_or, or_true, false_or, or_false, true_iff, iff_true, false_iff, iff_false, not_true_eq_false, not_false_eq_true, true_implies, false_implies, implies_true, forall_const, decide_true, decide_false, reduceCtorEq]
                      clear K0 K1
                      obtain ⟨K1, K2, K3⟩ := K
                      unfold mn4 at K1
                      unfold mx4 at K2
                      simp only [ite_min, ite_max]
                      clear l1 l2 l3 l4 k0 k1 k2 k3 k4 k5 k6 k7 h_a h_b h_c h_d hr hz
                      intros
                      refine ⟨⟨?_, ?_⟩, ?_⟩
                      · rw [K1]
                      · rw [K2]
                      · omega
                    · have K := K0 (fun h => k7 h.2.2.2.2.2.2.2)
                      simp only [k0, k1, k2, k3, k4, k5, k6, k7, f50, f00, forall_eq, eq_self, if_true, if_false, true_and, and_true, false_and, and_false, true_or, or_true, false_or, or_false, true_iff, iff_true, false_iff, iff_false, not_true_eq_false, not_false_eq_true, true_implies, false_implies, implies_true, forall_const, decide_true, decide_false, reduceCtorEq]
                      clear K0 K1 l1 l2 l3 l4
                      (repeat' (first | intro _ | refine And.intro ?_ ?_ | exact trivial)) <;> omega
                  · have K := K0 (fun h => k6 h.2.2.2.2.2.2.1)
                    simp only [k0, k1, k2, k3, k4, k5, k6, f50, f00, forall_eq, eq_self, if_true, if_false, true_and, and_true, false_and, and_false, true_or, or_true, false_or, or_false, true_iff, iff_true, false_iff, iff_false, not_true_eq_false, not_false_eq_true, true_implies, false_implies, implies_true, forall_const, decide_true, decide_false, reduceCtorEq]
                    clear K0 K1 l1 l2 l3 l4
                    (repeat' (first | intro _ | refine And.intro ?_ ?_ | exact trivial)) <;> omega
                · have K := K0 (fun h => k5 h.2.2.2.2.2.1)
                  simp only [k0, k1, k2, k3, k4, k5, f50, f00, forall_eq, eq_self, if_true, if_false, true_and, and_true, false_and, and_false, true_or, or_true, false_or, or_false, true_iff, iff_true, false_iff, iff_false, not_true_eq_false, not_false_eq_true, true_implies, false_implies, implies_true, forall_const, decide_true, decide_false, reduceCtorEq]
                  clear K0 K1 l1 l2 l3 l4
                  (repeat' (first | intro _ | refine And.intro ?_ ?_ | exact trivial)) <;> omega
              · have K := K0 (fun h => k4 h.2.2.2.2.1)
                simp only [k0, k1, k2, k3, k4, f50, f00, forall_eq, eq_self, if_true, if_false, true_and, and_true, false_and, and_false, true_or, or_true, false_or, or_false, true_iff, iff_true, false_iff, iff_false, not_true_eq_false, not_false_eq_true, true_implies, false_implies, implies_true, forall_const, decide_true, decide_false, reduceCtorEq]
                clear K0 K1 l1 l2 l3 l4
                (repeat' (first | intro _ | refine And.intro ?_ ?_ | exact trivial)) <;> omega
            · have K := K0 (fun h => k3 h.2.2.2.1)
              simp only [k0, k1, k2, k3, f50, f00, forall_eq, eq_self, if_true, if_false, true_and, and_true, false_and, and_false, true_or, or_true, false_or, or_false, true_iff, iff_true, false_iff, iff_false, not_true_eq_false, not_false_eq_true, true_implies, false_implies, implies_true, forall_const, decide_true, decide_false, reduceCtorEq]
              clear K0 K1 l1 l2 l3 l4
              (repeat' (first | intro _ | refine And.intro ?_ ?_ | exact trivial)) <;> omega
          · have K := K0 (fun h => k2 h.2.2.1)
            simp only [k0, k1, k2, f50, f00, forall_eq, eq_self, if_true, if_false, true_and, and_true, false_and, and_false, true_or, or_true, false_or, or_false, true_iff, iff_true, false_iff, iff_false, not_true_eq_false, not_false_eq_true, true_implies, false_implies, implies_true, forall_const, decide_true, decide_false, reduceCtorEq]
            clear K0 K1 l1 l2 l3 l4
            (repeat' (first | intro _ | refine And.intro ?_ ?_ | exact trivial)) <;> omega
        · have K := K0 (fun h => k1 h.2.1)
          simp only [k0, k1, f50, f00, forall_eq, eq_self, if_true, if_false, true_and, and_true, false_and, and_false, true_or, or_true, false_or, or_false, true_iff, iff_true, false_iff, iff_false, not_true_eq_false, not_false_eq_true, true_implies, false_implies, implies_true, forall_const, decide_true, decide_false, reduceCtorEq]
          clear K0 K1 l1 l2 l3 l4
          (repeat' (first | intro _ | refine And.intro ?_ ?_ | exact trivial)) <;> omega
      · have K := K0 (fun h => k0 h.1)
        simp only [k0, f50, f00, forall_eq, eq_self, if_true, if_false, true_and, and_true, false_and, and_false, true_or, or_true, false_or, or_false, true_iff, iff_true, false_iff, iff_false, not_true_eq_false, not_false_eq_true, true_implies, false_implies, implies_true, forall_const, decide_true, decide_false, reduceCtorEq]
        clear K0 K1 l1 l2 l3 l4
        (repeat' (first | intro _ | refine And.intro ?_ ?_ | exact trivial)) <;> omega
end Go.Proofs.Ytlhmhcjpdpakkaa.X
