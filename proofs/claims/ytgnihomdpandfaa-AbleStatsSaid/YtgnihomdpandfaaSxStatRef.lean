/-
  The contracts of the reference's stats (datumref11), for every input in range.
-/
import Derived.Test.YtgnihomdpandfaaSxStatNum2
import Derived.Test.YtgnihomdpandfaaSxRefProd
namespace Go.Proofs.Ytgnihomdpandfaa.X
open Go Go.SX Go.RowKit
set_option linter.unusedVariables false
set_option linter.unusedSimpArgs false




def rless_sp : SpecSh := { args := [(.agg [(.int .u64 (.z 0)), (.int .u64 (.z 0))]), (.agg [(.int .u64 (.z 0)), (.int .u64 (.z 0))])], res := (.bool .f), sh := [.b] }
set_option maxRecDepth 100000 in
def rless_tree : Tree :=
.ite (.not (.cmp .eq (.v 0) (.v 2))) (.ret (.bool (.cmp .lt (.v 0) (.v 2)))) <|
.ret (.bool (.cmp .lt (.v 1) (.v 3)))
noncomputable def rless_cx : Ctx := { tys := tys, fns := fns, sps := [], anns := [], trys := [] }
def rless_ivs : List (Option (Int × Int)) := [some (0, 18446744073709551615), some (0, 18446744073709551615), some (0, 18446744073709551615), some (0, 18446744073709551615)]
set_option maxRecDepth 100000 in
theorem rless_walk : runFn rless_cx 3000 51 Try.f51 rless_sp.args rless_ivs = rless_tree := by kernel_rfl
noncomputable def rless_M : Nat → SpecSem
  | _ => noSem
theorem rless_cxok : CxOK Try.prog rless_cx rless_M := ⟨tysOK, fnsOK, fun _ _ h => spNil h, mixedOK, fun _ _ h => trNil h⟩

def rless_sem : SpecSem := { pre := fun cs => match cs with | [.i a, .i b, .i c, .i d] => IsU a ∧ IsU b ∧ IsU c ∧ IsU d | _ => False, out := fun cs => match cs with | [.i a, .i b, .i c, .i d] => [.b (decide (val a b < val c d))] | _ => [] }
set_option maxRecDepth 10000 in
set_option maxHeartbeats 16000000 in
theorem rless_ok : SpecOK Try.prog 51 rless_sp rless_sem := by
  refine spec_of_tree rless_cxok Try.func51 (by kernel_rfl) (by kernel_rfl) rless_walk rfl ?_
  intro cs hpre
  match cs, hpre with
  | [.i a, .i b, .i c, .i d], ⟨j_a, j_b, j_c, j_d⟩ =>
    have h_a := j_a
    unfold IsU at h_a
    have h_b := j_b
    unfold IsU at h_b
    have h_c := j_c
    unfold IsU at h_c
    have h_d := j_d
    unfold IsU at h_d
    refine ⟨rfl, IvsB.ok (by simp only [rless_ivs, IvsB, Cv.int, and_true] <;> omega), ?_, ?_⟩
    · simp only [rless_sem, rless_sp, Fits]
    · simp only [rless_sem, rless_sp, rless_tree, Tree.den, LE.den, Cv.list, placeA, List.getElem?_cons_zero, List.getElem?_cons_succ, IE.den, BE.den, At.den, CA.den, Env.get, Cv.int, Cv.bool, List.cons_append, List.nil_append, List.map_cons, List.map_nil, bindRes, bindEq, Fits, SV.den, denL, place, placeL, eq_t, eq_f, lt_t, lt_f, le_t, le_f, beq_iff_eq, beq_eq_false_iff_ne, ne_eq, reduceCtorEq, b_dec, decide_eq_true_eq, decide_eq_false_iff_not, Bool.not_eq_false', Bool.or_eq_true, Bool.or_eq_false_iff, Bool.and_eq_false_iff, true_iff, false_iff, Bool.false_eq_true, Bool.not_eq_true', Bool.and_eq_true, Bool.not_true, Bool.not_false, List.cons.injEq, Cv.i.injEq, Cv.b.injEq, and_true, true_and, agg_inj, tup_inj, Value.int.injEq, Value.bool.injEq]
      unfold val
      (repeat' (first | intro _ | refine And.intro ?_ ?_ | exact trivial)) <;> omega
def r11sq_sp : SpecSh := { args := [(.int .i64 (.z 0))], res := (.agg [(.int .u64 (.z 0)), (.int .u64 (.z 0))]), sh := [.i (some (0, 18446744073709551615)), .i (some (0, 18446744073709551615))] }
set_option maxRecDepth 100000 in
def r11sq_tree : Tree :=
.call 52 [.b, .i (some (0, 18446744073709551615)), .i (some (0, 18446744073709551615))] [.i (.v 0), .i (.v 0)] <|
.ret (.agg [(.int .u64 (.v 2)), (.int .u64 (.v 3))])
noncomputable def r11sq_cx : Ctx := { tys := tys, fns := fns, sps := [(52, r4prod_sp)], anns := [], trys := [] }
def r11sq_ivs : List (Option (Int × Int)) := [some ((-9223372036854775808), 9223372036854775807)]
set_option maxRecDepth 100000 in
theorem r11sq_walk : runFn r11sq_cx 3000 54 Try.f54 r11sq_sp.args r11sq_ivs = r11sq_tree := by kernel_rfl
noncomputable def r11sq_M : Nat → SpecSem
  | 52 => r4prod_sem
  | _ => noSem
theorem r11sq_M52 : r11sq_M 52 = r4prod_sem := rfl
theorem r11sq_cxok : CxOK Try.prog r11sq_cx r11sq_M := ⟨tysOK, fnsOK, spCons r4prod_ok <| fun _ _ h => spNil h, mixedOK, fun _ _ h => trNil h⟩

def r11sq_sem : SpecSem := { pre := fun cs => match cs with | [.i a] => IsI a ∧ (-1000000000000000 ≤ a ∧ a ≤ 1000000000000000) | _ => False, out := fun cs => match cs with | [.i a] => [.i (a * a / 18446744073709551616), .i (a * a % 18446744073709551616)] | _ => [] }
set_option maxRecDepth 10000 in
set_option maxHeartbeats 16000000 in
theorem r11sq_ok : SpecOK Try.prog 54 r11sq_sp r11sq_sem := by
  refine spec_of_tree r11sq_cxok Try.func54 (by kernel_rfl) (by kernel_rfl) r11sq_walk rfl ?_
  intro cs hpre
  match cs, hpre with
  | [.i a], ⟨j_a, hx⟩ =>
    have h_a := j_a
    unfold IsI at h_a
    refine ⟨rfl, IvsB.ok (by simp only [r11sq_ivs, IvsB, Cv.int, and_true] <;> omega), ?_, ?_⟩
    · have := sq_le15 hx
      simp only [r11sq_sem, r11sq_sp, Fits, and_true]; omega
    · simp only [r11sq_sem, r11sq_sp, abs_sq, r11sq_tree, r11sq_M52, r4prod_sem, Tree.den, LE.den, Cv.list, placeA, List.getElem?_cons_zero, List.getElem?_cons_succ, IE.den, BE.den, At.den, CA.den, Env.get, Cv.int, Cv.bool, List.cons_append, List.nil_append, List.map_cons, List.map_nil, bindRes, bindEq, Fits, SV.den, denL, place, placeL, eq_t, eq_f, lt_t, lt_f, le_t, le_f, beq_iff_eq, beq_eq_false_iff_ne, ne_eq, reduceCtorEq, b_dec, decide_eq_true_eq, decide_eq_false_iff_not, Bool.not_eq_false', Bool.or_eq_true, Bool.or_eq_false_iff, Bool.and_eq_false_iff, true_iff, false_iff, Bool.false_eq_true, Bool.not_eq_true', Bool.and_eq_true, Bool.not_true, Bool.not_false, List.cons.injEq, Cv.i.injEq, Cv.b.injEq, and_true, true_and, agg_inj, tup_inj, Value.int.injEq, Value.bool.injEq]
      (repeat' (first | intro _ | refine And.intro ?_ ?_ | exact trivial)) <;> omega
def r11tm_sp : SpecSh := { args := [(.int .i64 (.z 0)), (.agg [(.int .u64 (.z 0)), (.int .u64 (.z 0))])], res := (.agg [(.int .u64 (.z 0)), (.int .u64 (.z 0))]), sh := [.i (some (0, 18446744073709551615)), .i (some (0, 18446744073709551615))] }
set_option maxRecDepth 100000 in
def r11tm_tree : Tree :=
.lett (.wrap .u64 (.v 0)) <|
.call 76 [.i (some (0, 18446744073709551615)), .i (some (0, 18446744073709551615)), .b] [.i (.z 0), .i (.v 3), .i (.v 1), .i (.v 2)] <|
.ret (.agg [(.int .u64 (.v 4)), (.int .u64 (.v 5))])
noncomputable def r11tm_cx : Ctx := { tys := tys, fns := fns, sps := [(76, rtimes_sp)], anns := [], trys := [] }
def r11tm_ivs : List (Option (Int × Int)) := [some ((-9223372036854775808), 9223372036854775807), some (0, 18446744073709551615), some (0, 18446744073709551615)]
set_option maxRecDepth 100000 in
theorem r11tm_walk : runFn r11tm_cx 3000 53 Try.f53 r11tm_sp.args r11tm_ivs = r11tm_tree := by kernel_rfl
noncomputable def r11tm_M : Nat → SpecSem
  | 76 => rtimes_sem
  | _ => noSem
theorem r11tm_M76 : r11tm_M 76 = rtimes_sem := rfl
theorem r11tm_cxok : CxOK Try.prog r11tm_cx r11tm_M := ⟨tysOK, fnsOK, spCons rtimes_ok <| fun _ _ h => spNil h, mixedOK, fun _ _ h => trNil h⟩

def r11tm_sem : SpecSem := { pre := fun cs => match cs with | [.i n, .i h, .i l] => IsI n ∧ IsU h ∧ IsU l ∧ (0 ≤ n) | _ => False, out := fun cs => match cs with | [.i n, .i h, .i l] => [.i (n * val h l / 18446744073709551616 % 18446744073709551616), .i (n * val h l % 18446744073709551616)] | _ => [] }
set_option maxRecDepth 10000 in
set_option maxHeartbeats 16000000 in
theorem r11tm_ok : SpecOK Try.prog 53 r11tm_sp r11tm_sem := by
  refine spec_of_tree r11tm_cxok Try.func53 (by kernel_rfl) (by kernel_rfl) r11tm_walk rfl ?_
  intro cs hpre
  match cs, hpre with
  | [.i n, .i h, .i l], ⟨j_n, j_h, j_l, hx⟩ =>
    have h_n := j_n
    unfold IsI at h_n
    have h_h := j_h
    unfold IsU at h_h
    have h_l := j_l
    unfold IsU at h_l
    refine ⟨rfl, IvsB.ok (by simp only [r11tm_ivs, IvsB, Cv.int, and_true] <;> omega), ?_, ?_⟩
    · simp only [r11tm_sem, r11tm_sp, Fits, and_true]; omega
    · have w1 : IntKind.u64.wrap n = n := wu64 (by omega) (by omega)
      have u1 : IsU n := ⟨by omega, by omega⟩
      have u0 : IsU 0 := ⟨by omega, by omega⟩
      simp only [r11tm_sem, r11tm_sp, r11tm_tree, r11tm_M76, rtimes_sem, Tree.den, LE.den, Cv.list, placeA, List.getElem?_cons_zero, List.getElem?_cons_succ, IE.den, BE.den, At.den, CA.den, Env.get, Cv.int, Cv.bool, List.cons_append, List.nil_append, List.map_cons, List.map_nil, bindRes, bindEq, Fits, SV.den, denL, place, placeL, eq_t, eq_f, lt_t, lt_f, le_t, le_f, beq_iff_eq, beq_eq_false_iff_ne, ne_eq, reduceCtorEq, b_dec, decide_eq_true_eq, decide_eq_false_iff_not, Bool.not_eq_false', Bool.or_eq_true, Bool.or_eq_false_iff, Bool.and_eq_false_iff, true_iff, false_iff, Bool.false_eq_true, Bool.not_eq_true', Bool.and_eq_true, Bool.not_true, Bool.not_false, List.cons.injEq, Cv.i.injEq, Cv.b.injEq, and_true, true_and, agg_inj, tup_inj, Value.int.injEq, Value.bool.injEq]
      simp only [w1, u0, u1, j_h, j_l, val0, forall_eq, eq_self, if_true, if_false, true_and, and_true, false_and, and_false, true_or, or_true, false_or, or_false, true_iff, iff_true, false_iff, iff_false, not_true_eq_false, not_false_eq_true, true_implies, false_implies, implies_true, forall_const, decide_true, decide_false, reduceCtorEq]



def r11right_sp : SpecSh := { args := [(.agg [(.int .i64 (.z 0)), (.int .i64 (.z 0)), (.int .u64 (.z 0)), (.int .u64 (.z 0)), (.int .i64 (.z 0)), (.int .i64 (.z 0))])], res := (.bool .f), sh := [.b] }
set_option maxRecDepth 100000 in
def r11right_tree : Tree :=
.ite (.and (.cmp .eq (.v 0) (.z 0)) (.and (.cmp .eq (.v 1) (.z 0)) (.and (.cmp .eq (.v 2) (.z 0)) (.and (.cmp .eq (.v 3) (.z 0)) (.and (.cmp .eq (.v 4) (.z 0)) (.cmp .eq (.v 5) (.z 0))))))) (.ret (.bool .t)) <|
.ite (.cmp .lt (.v 0) (.z 1)) (.ret (.bool .f)) <|
.ite (.cmp .lt (.z 1000000000) (.v 0)) (.ret (.bool .f)) <|
.ite (.cmp .lt (.v 5) (.v 4)) (.ret (.bool .f)) <|
.ite (.cmp .lt (.v 4) (.z (-1000000))) (.ret (.bool .f)) <|
.ite (.cmp .lt (.z 1000000) (.v 5)) (.ret (.bool .f)) <|
.lett (.mulw .i64 (.v 0) (.v 4)) <|
.ite (.cmp .lt (.v 1) (.v 6)) (.ret (.bool .f)) <|
.lett (.mulw .i64 (.v 0) (.v 5)) <|
.ite (.cmp .lt (.v 7) (.v 1)) (.ret (.bool .f)) <|
.call 52 [.b, .i (some (0, 18446744073709551615)), .i (some (0, 18446744073709551615))] [.i (.v 0), .i (.z 1000000000000)] <|
.call 51 [.b] [.i (.v 9), .i (.v 10), .i (.v 2), .i (.v 3)] <|
.ite (.v 11) (.ret (.bool .f)) <|
.call 53 [.i (some (0, 18446744073709551615)), .i (some (0, 18446744073709551615))] [.i (.v 0), .i (.v 2), .i (.v 3)] <|
.call 54 [.i (some (0, 18446744073709551615)), .i (some (0, 18446744073709551615))] [.i (.v 1)] <|
.call 51 [.b] [.i (.v 12), .i (.v 13), .i (.v 14), .i (.v 15)] <|
.ret (.bool (.not (.v 16)))
noncomputable def r11right_cx : Ctx := { tys := tys, fns := fns, sps := [(51, rless_sp), (52, r4prod_sp), (54, r11sq_sp), (53, r11tm_sp)], anns := [], trys := [] }
def r11right_ivs : List (Option (Int × Int)) := [some ((-9223372036854775808), 9223372036854775807), some ((-9223372036854775808), 9223372036854775807), some (0, 18446744073709551615), some (0, 18446744073709551615), some ((-9223372036854775808), 9223372036854775807), some ((-9223372036854775808), 9223372036854775807)]
set_option maxRecDepth 100000 in
theorem r11right_walk : runFn r11right_cx 3000 24 Try.f24 r11right_sp.args r11right_ivs = r11right_tree := by kernel_rfl
noncomputable def r11right_M : Nat → SpecSem
  | 51 => rless_sem
  | 52 => r4prod_sem
  | 54 => r11sq_sem
  | 53 => r11tm_sem
  | _ => noSem
theorem r11right_M51 : r11right_M 51 = rless_sem := rfl
theorem r11right_M52 : r11right_M 52 = r4prod_sem := rfl
theorem r11right_M54 : r11right_M 54 = r11sq_sem := rfl
theorem r11right_M53 : r11right_M 53 = r11tm_sem := rfl
theorem r11right_cxok : CxOK Try.prog r11right_cx r11right_M := ⟨tysOK, fnsOK, spCons rless_ok <| spCons r4prod_ok <| spCons r11sq_ok <| spCons r11tm_ok <| fun _ _ h => spNil h, mixedOK, fun _ _ h => trNil h⟩
set_option maxRecDepth 100000 in
set_option maxHeartbeats 8000000 in
theorem r11right_den (R RP : Value → Prop) (F : Ex → St → Js → Env → Prop) (J : Js) (x0 : Int) (x1 : Int) (x2 : Int) (x3 : Int) (x4 : Int) (x5 : Int) : Tree.den r11right_M R RP F r11right_tree J [(.i x0), (.i x1), (.i x2), (.i x3), (.i x4), (.i x5)] = (
  (((Cmp.den .eq x0 (0 : Int)) && ((Cmp.den .eq x1 (0 : Int)) && ((Cmp.den .eq x2 (0 : Int)) && ((Cmp.den .eq x3 (0 : Int)) && ((Cmp.den .eq x4 (0 : Int)) && (Cmp.den .eq x5 (0 : Int))))))) = true → R (Value.bool true)) ∧ (((Cmp.den .eq x0 (0 : Int)) && ((Cmp.den .eq x1 (0 : Int)) && ((Cmp.den .eq x2 (0 : Int)) && ((Cmp.den .eq x3 (0 : Int)) && ((Cmp.den .eq x4 (0 : Int)) && (Cmp.den .eq x5 (0 : Int))))))) = false → ((Cmp.den .lt x0 (1 : Int)) = true → R (Value.bool false)) ∧ ((Cmp.den .lt x0 (1 : Int)) = false → ((Cmp.den .lt (1000000000 : Int) x0) = true → R (Value.bool false)) ∧ ((Cmp.den .lt (1000000000 : Int) x0) = false → ((Cmp.den .lt x5 x4) = true → R (Value.bool false)) ∧ ((Cmp.den .lt x5 x4) = false → ((Cmp.den .lt x4 (-1000000 : Int)) = true → R (Value.bool false)) ∧ ((Cmp.den .lt x4 (-1000000 : Int)) = false → ((Cmp.den .lt (1000000 : Int) x5) = true → R (Value.bool false)) ∧ ((Cmp.den .lt (1000000 : Int) x5) = false → ∀ x6 : Int, x6 = (IntKind.i64.wrap (x0 * x4)) →
((Cmp.den .lt x1 x6) = true → R (Value.bool false)) ∧ ((Cmp.den .lt x1 x6) = false → ∀ x7 : Int, x7 = (IntKind.i64.wrap (x0 * x5)) →
((Cmp.den .lt x7 x1) = true → R (Value.bool false)) ∧ ((Cmp.den .lt x7 x1) = false → (r4prod_sem.pre [(.i x0), (.i (1000000000000 : Int))]) ∧ (
∀ x9 : Int, x9 = (Cv.int (Env.get (r4prod_sem.out [(.i x0), (.i (1000000000000 : Int))]) 1)) → (0 : Int) ≤ x9 → x9 ≤ (18446744073709551615 : Int) →
∀ x10 : Int, x10 = (Cv.int (Env.get (r4prod_sem.out [(.i x0), (.i (1000000000000 : Int))]) 2)) → (0 : Int) ≤ x10 → x10 ≤ (18446744073709551615 : Int) →
(rless_sem.pre [(.i x9), (.i x10), (.i x2), (.i x3)]) ∧ (
((Cv.bool (Env.get (rless_sem.out [(.i x9), (.i x10), (.i x2), (.i x3)]) 0)) = true → R (Value.bool false)) ∧ ((Cv.bool (Env.get (rless_sem.out [(.i x9), (.i x10), (.i x2), (.i x3)]) 0)) = false → (r11tm_sem.pre [(.i x0), (.i x2), (.i x3)]) ∧ (
∀ x12 : Int, x12 = (Cv.int (Env.get (r11tm_sem.out [(.i x0), (.i x2), (.i x3)]) 0)) → (0 : Int) ≤ x12 → x12 ≤ (18446744073709551615 : Int) →
∀ x13 : Int, x13 = (Cv.int (Env.get (r11tm_sem.out [(.i x0), (.i x2), (.i x3)]) 1)) → (0 : Int) ≤ x13 → x13 ≤ (18446744073709551615 : Int) →
(r11sq_sem.pre [(.i x1)]) ∧ (
∀ x14 : Int, x14 = (Cv.int (Env.get (r11sq_sem.out [(.i x1)]) 0)) → (0 : Int) ≤ x14 → x14 ≤ (18446744073709551615 : Int) →
∀ x15 : Int, x15 = (Cv.int (Env.get (r11sq_sem.out [(.i x1)]) 1)) → (0 : Int) ≤ x15 → x15 ≤ (18446744073709551615 : Int) →
(rless_sem.pre [(.i x12), (.i x13), (.i x14), (.i x15)]) ∧ (
R (Value.bool (!(Cv.bool (Env.get (rless_sem.out [(.i x12), (.i x13), (.i x14), (.i x15)]) 0))))))))))))))))))) := by kernel_rfl

def r11right_sem : SpecSem := { pre := fun cs => match cs with | [.i n, .i s, .i h, .i l, .i mn, .i mx] => IsI n ∧ IsI s ∧ IsU h ∧ IsU l ∧ IsI mn ∧ IsI mx | _ => False, out := fun cs => match cs with | [.i n, .i s, .i h, .i l, .i mn, .i mx] => [.b (decide (stOK n s h l mn mx))] | _ => [] }
set_option maxRecDepth 10000 in
set_option maxHeartbeats 16000000 in
theorem r11right_ok : SpecOK Try.prog 24 r11right_sp r11right_sem := by
  refine spec_of_tree r11right_cxok Try.func24 (by kernel_rfl) (by kernel_rfl) r11right_walk rfl ?_
  intro cs hpre
  match cs, hpre with
  | [.i n, .i s, .i h, .i l, .i mn, .i mx], ⟨j_n, j_s, j_h, j_l, j_mn, j_mx⟩ =>
    have h_n := j_n
    unfold IsI at h_n
    have h_s := j_s
    unfold IsI at h_s
    have h_h := j_h
    unfold IsU at h_h
    have h_l := j_l
    unfold IsU at h_l
    have h_mn := j_mn
    unfold IsI at h_mn
    have h_mx := j_mx
    unfold IsI at h_mx
    refine ⟨rfl, IvsB.ok (by simp only [r11right_ivs, IvsB, Cv.int, and_true] <;> omega), ?_, ?_⟩
    · simp only [r11right_sem, r11right_sp, Fits]
    · rw [r11right_den]
      simp only [r11right_sem, r11right_sp, r11right_den, rless_sem, r4prod_sem, r11sq_sem, r11tm_sem, Tree.den, LE.den, Cv.list, placeA, List.getElem?_cons_zero, List.getElem?_cons_succ, IE.den, BE.den, At.den, CA.den, Env.get, Cv.int, Cv.bool, List.cons_append, List.nil_append, List.map_cons, List.map_nil, bindRes, bindEq, Fits, SV.den, denL, place, placeL, eq_t, eq_f, lt_t, lt_f, le_t, le_f, beq_iff_eq, beq_eq_false_iff_ne, ne_eq, reduceCtorEq, b_dec, decide_eq_true_eq, decide_eq_false_iff_not, Bool.not_eq_false', Bool.or_eq_true, Bool.or_eq_false_iff, Bool.and_eq_false_iff, true_iff, false_iff, Bool.false_eq_true, Bool.not_eq_true', Bool.and_eq_true, Bool.not_true, Bool.not_false, List.cons.injEq, Cv.i.injEq, Cv.b.injEq, and_true, true_and, agg_inj, tup_inj, Value.int.injEq, Value.bool.injEq]
      have p1 := st_lo (n := n) (m := mn)
      have p2 := st_hi (n := n) (m := mn)
      have p3 := st_lo (n := n) (m := mx)
      have p4 := st_hi (n := n) (m := mx)
      have v0 : 0 ≤ val h l := by unfold val; omega
      have wA : -1000000000000000 ≤ n * mn → n * mn ≤ 1000000000000000 → IntKind.i64.wrap (n * mn) = n * mn := fun k1 k2 => w64 (by omega) (by omega)
      have wB : -1000000000000000 ≤ n * mx → n * mx ≤ 1000000000000000 → IntKind.i64.wrap (n * mx) = n * mx := fun k1 k2 => w64 (by omega) (by omega)
      have vn := vq (absZ n * absZ 1000000000000)
      have an : 0 ≤ n → absZ n * absZ 1000000000000 = n * 1000000000000 := by
        intro k
        unfold absZ
        rw [if_neg (by omega), if_neg (by omega)]
      have hq : 0 ≤ n → n ≤ 1000000000 → val h l ≤ 1000000000000000000000 → 0 ≤ n * val h l ∧ n * val h l ≤ 1000000000000000000000000000000 := fun k1 k2 k3 => nq_le30 ⟨k1, k2⟩ ⟨v0, k3⟩
      have hs : (-1000000000000000 ≤ s ∧ s ≤ 1000000000000000) → 0 ≤ s * s ∧ s * s ≤ 1000000000000000000000000000000 := sq_le15
      have vs := vq (s * s)
      have vC : 0 ≤ n * val h l ∧ n * val h l ≤ 1000000000000000000000000000000 → _ := fun k => vq2 (x := n * val h l) k.1 (by omega)
      simp only [stOK, IsU, IsI]
      generalize n * mn = A at *
      generalize n * mx = B at *
      generalize n * val h l = C at *
      generalize s * s = D at *
      generalize val h l = Q at *
      generalize absZ n * absZ 1000000000000 = E at *
      generalize IntKind.i64.wrap A = A' at *
      generalize IntKind.i64.wrap B = B' at *
      refine ⟨fun k => Or.inl k, fun k => ?_⟩
      have kz : ¬(n = 0 ∧ s = 0 ∧ h = 0 ∧ l = 0 ∧ mn = 0 ∧ mx = 0) := fun q => by
        obtain ⟨q1, q2, q3, q4, q5, q6⟩ := q
        rcases k with k | k | k | k | k | k
        · exact k q1
        · exact k q2
        · exact k q3
        · exact k q4
        · exact k q5
        · exact k q6
      simp only [kz, false_or]
      clear kz k hpre j_n j_s j_h j_l j_mn j_mx
      refine ⟨fun k1 q => by obtain ⟨⟨q1, q2⟩, q3⟩ := q; omega, fun k1 => ⟨fun k2 q => by obtain ⟨⟨q1, q2⟩, q3⟩ := q; omega, fun k2 => ⟨fun k3 q => by obtain ⟨q1, q2, q3⟩ := q; omega, fun k3 => ⟨fun k4 q => by obtain ⟨q1, q2, q3, q4⟩ := q; omega, fun k4 => ⟨fun k5 q => by obtain ⟨q1, q2, q3, q4, q5⟩ := q; omega, fun k5 => ?_⟩⟩⟩⟩⟩
      have p1 := p1 k1 k2 k4
      have p2 := p2 k1 k2 (by omega)
      have p3 := p3 k1 k2 (by omega)
      have p4 := p4 k1 k2 k5
      have wA := wA p1 p2
      have wB := wB p3 p4
      have an := an (by omega)
      intro x6 e6
      rw [wA] at e6
      subst e6
      refine ⟨fun k8 q => by obtain ⟨q1, q2, q3, q4, q5, q6⟩ := q; omega, fun k8 => ?_⟩
      intro x7 e7
      rw [wB] at e7
      subst e7
      refine ⟨fun k9 q => by obtain ⟨q1, q2, q3, q4, q5, q6, q7⟩ := q; omega, fun k9 => ⟨⟨h_n, by omega⟩, ?_⟩⟩
      have hs := hs ⟨by omega, by omega⟩
      intro x9 e9 l9 g9 x10 e10 l10 g10
      rw [← e9, ← e10] at vn
      rw [vn]
      clear e9 e10 vn
      subst an
      refine ⟨⟨⟨l9, g9⟩, ⟨l10, g10⟩, h_h, h_l⟩, fun k10 q => by obtain ⟨q1, q2, q3, q4, q5, q6, q7, q8⟩ := q; omega, fun k10 => ⟨⟨h_n, h_h, h_l, by omega⟩, ?_⟩⟩
      have hq := hq (by omega) (by omega) (by omega)
      have vC := vC hq
      intro x12 e12 l12 g12 x13 e13 l13 g13
      rw [← e12, ← e13] at vC
      clear e12 e13
      refine ⟨⟨h_s, by omega, by omega⟩, ?_⟩
      intro x14 e14 l14 g14 x15 e15 l15 g15
      rw [← e14, ← e15] at vs
      clear e14 e15
      rw [vs, vC]
      refine ⟨⟨⟨l12, g12⟩, ⟨l13, g13⟩, ⟨l14, g14⟩, ⟨l15, g15⟩⟩, fun q => ⟨⟨k1, k2⟩, k3, k4, k5, k8, k9, by omega, by omega⟩, fun q => by obtain ⟨q1, q2, q3, q4, q5, q6, q7, q8⟩ := q; omega⟩
def r11sp_sp : SpecSh := { args := [(.agg [(.int .i64 (.z 0)), (.int .i64 (.z 0)), (.int .u64 (.z 0)), (.int .u64 (.z 0)), (.int .i64 (.z 0)), (.int .i64 (.z 0))])], res := (.agg [(.int .u64 (.z 0)), (.int .u64 (.z 0))]), sh := [.i (some (0, 18446744073709551615)), .i (some (0, 18446744073709551615))] }
set_option maxRecDepth 100000 in
def r11sp_tree : Tree :=
.call 53 [.i (some (0, 18446744073709551615)), .i (some (0, 18446744073709551615))] [.i (.v 0), .i (.v 2), .i (.v 3)] <|
.call 54 [.i (some (0, 18446744073709551615)), .i (some (0, 18446744073709551615))] [.i (.v 1)] <|
.call 56 [.i (some (0, 18446744073709551615)), .i (some (0, 18446744073709551615)), .b] [.i (.v 6), .i (.v 7), .i (.v 8), .i (.v 9)] <|
.ret (.agg [(.int .u64 (.v 10)), (.int .u64 (.v 11))])
noncomputable def r11sp_cx : Ctx := { tys := tys, fns := fns, sps := [(56, rsub_sp), (54, r11sq_sp), (53, r11tm_sp)], anns := [], trys := [] }
def r11sp_ivs : List (Option (Int × Int)) := [some ((-9223372036854775808), 9223372036854775807), some ((-9223372036854775808), 9223372036854775807), some (0, 18446744073709551615), some (0, 18446744073709551615), some ((-9223372036854775808), 9223372036854775807), some ((-9223372036854775808), 9223372036854775807)]
set_option maxRecDepth 100000 in
theorem r11sp_walk : runFn r11sp_cx 3000 27 Try.f27 r11sp_sp.args r11sp_ivs = r11sp_tree := by kernel_rfl
noncomputable def r11sp_M : Nat → SpecSem
  | 56 => rsub_sem
  | 54 => r11sq_sem
  | 53 => r11tm_sem
  | _ => noSem
theorem r11sp_M56 : r11sp_M 56 = rsub_sem := rfl
theorem r11sp_M54 : r11sp_M 54 = r11sq_sem := rfl
theorem r11sp_M53 : r11sp_M 53 = r11tm_sem := rfl
theorem r11sp_cxok : CxOK Try.prog r11sp_cx r11sp_M := ⟨tysOK, fnsOK, spCons rsub_ok <| spCons r11sq_ok <| spCons r11tm_ok <| fun _ _ h => spNil h, mixedOK, fun _ _ h => trNil h⟩
set_option maxRecDepth 100000 in
set_option maxHeartbeats 8000000 in
theorem r11sp_den (R RP : Value → Prop) (F : Ex → St → Js → Env → Prop) (J : Js) (x0 : Int) (x1 : Int) (x2 : Int) (x3 : Int) (x4 : Int) (x5 : Int) : Tree.den r11sp_M R RP F r11sp_tree J [(.i x0), (.i x1), (.i x2), (.i x3), (.i x4), (.i x5)] = (
  (r11tm_sem.pre [(.i x0), (.i x2), (.i x3)]) ∧ (
∀ x6 : Int, x6 = (Cv.int (Env.get (r11tm_sem.out [(.i x0), (.i x2), (.i x3)]) 0)) → (0 : Int) ≤ x6 → x6 ≤ (18446744073709551615 : Int) →
∀ x7 : Int, x7 = (Cv.int (Env.get (r11tm_sem.out [(.i x0), (.i x2), (.i x3)]) 1)) → (0 : Int) ≤ x7 → x7 ≤ (18446744073709551615 : Int) →
(r11sq_sem.pre [(.i x1)]) ∧ (
∀ x8 : Int, x8 = (Cv.int (Env.get (r11sq_sem.out [(.i x1)]) 0)) → (0 : Int) ≤ x8 → x8 ≤ (18446744073709551615 : Int) →
∀ x9 : Int, x9 = (Cv.int (Env.get (r11sq_sem.out [(.i x1)]) 1)) → (0 : Int) ≤ x9 → x9 ≤ (18446744073709551615 : Int) →
(rsub_sem.pre [(.i x6), (.i x7), (.i x8), (.i x9)]) ∧ (
∀ x10 : Int, x10 = (Cv.int (Env.get (rsub_sem.out [(.i x6), (.i x7), (.i x8), (.i x9)]) 0)) → (0 : Int) ≤ x10 → x10 ≤ (18446744073709551615 : Int) →
∀ x11 : Int, x11 = (Cv.int (Env.get (rsub_sem.out [(.i x6), (.i x7), (.i x8), (.i x9)]) 1)) → (0 : Int) ≤ x11 → x11 ≤ (18446744073709551615 : Int) →
R (Value.agg [(Value.int .u64 x10), (Value.int .u64 x11)].toArray))))) := by kernel_rfl

def r11sp_sem : SpecSem := { pre := fun cs => match cs with | [.i n, .i s, .i h, .i l, .i mn, .i mx] => IsI n ∧ IsI s ∧ IsU h ∧ IsU l ∧ IsI mn ∧ IsI mx ∧ (stOK n s h l mn mx) | _ => False, out := fun cs => match cs with | [.i n, .i s, .i h, .i l, .i mn, .i mx] => [.i ((n * val h l - s * s) / 18446744073709551616), .i ((n * val h l - s * s) % 18446744073709551616)] | _ => [] }
set_option maxRecDepth 10000 in
set_option maxHeartbeats 16000000 in
theorem r11sp_ok : SpecOK Try.prog 27 r11sp_sp r11sp_sem := by
  refine spec_of_tree r11sp_cxok Try.func27 (by kernel_rfl) (by kernel_rfl) r11sp_walk rfl ?_
  intro cs hpre
  match cs, hpre with
  | [.i n, .i s, .i h, .i l, .i mn, .i mx], ⟨j_n, j_s, j_h, j_l, j_mn, j_mx, hx⟩ =>
    have h_n := j_n
    unfold IsI at h_n
    have h_s := j_s
    unfold IsI at h_s
    have h_h := j_h
    unfold IsU at h_h
    have h_l := j_l
    unfold IsU at h_l
    have h_mn := j_mn
    unfold IsI at h_mn
    have h_mx := j_mx
    unfold IsI at h_mx
    refine ⟨rfl, IvsB.ok (by simp only [r11sp_ivs, IvsB, Cv.int, and_true] <;> omega), ?_, ?_⟩
    · obtain ⟨a1, a2, a3, a4, a5, a6⟩ := st_rng j_h j_l hx
      have q1 := nq_le30 a1 a3
      have q2 := sq_le15 a2
      simp only [r11sp_sem, r11sp_sp, Fits, and_true]; omega
    · obtain ⟨a1, a2, a3, a4, a5, a6⟩ := st_rng j_h j_l hx
      have q1 := nq_le30 a1 a3
      have q2 := sq_le15 a2
      rw [r11sp_den]
      simp only [r11sp_sem, r11sp_sp, r11sp_den, rsub_sem, r11sq_sem, r11tm_sem, Tree.den, LE.den, Cv.list, placeA, List.getElem?_cons_zero, List.getElem?_cons_succ, IE.den, BE.den, At.den, CA.den, Env.get, Cv.int, Cv.bool, List.cons_append, List.nil_append, List.map_cons, List.map_nil, bindRes, bindEq, Fits, SV.den, denL, place, placeL, eq_t, eq_f, lt_t, lt_f, le_t, le_f, beq_iff_eq, beq_eq_false_iff_ne, ne_eq, reduceCtorEq, b_dec, decide_eq_true_eq, decide_eq_false_iff_not, Bool.not_eq_false', Bool.or_eq_true, Bool.or_eq_false_iff, Bool.and_eq_false_iff, true_iff, false_iff, Bool.false_eq_true, Bool.not_eq_true', Bool.and_eq_true, Bool.not_true, Bool.not_false, List.cons.injEq, Cv.i.injEq, Cv.b.injEq, and_true, true_and, agg_inj, tup_inj, Value.int.injEq, Value.bool.injEq]
      have e1 := vq2 q1.1 (by omega)
      have e2 := vq (s * s)
      have e3 : (n * val h l - s * s) / 18446744073709551616 % 18446744073709551616 = (n * val h l - s * s) / 18446744073709551616 := by omega
      have u1 : ∀ x : Int, IsU (x % 18446744073709551616) := fun x => ⟨by omega, by omega⟩
      have u2 : IsU (s * s / 18446744073709551616) := ⟨by omega, by omega⟩
      simp only [e1, e2, e3, u1, u2, a1, a2, j_n, j_s, j_h, j_l, eq_self, forall_eq, if_true, if_false, true_and, and_true, false_and, and_false, true_or, or_true, false_or, or_false, true_iff, iff_true, false_iff, iff_false, not_true_eq_false, not_false_eq_true, true_implies, false_implies, implies_true, forall_const, decide_true, decide_false, reduceCtorEq]
def r11join_sp : SpecSh := { args := [(.agg [(.int .i64 (.z 0)), (.int .i64 (.z 0)), (.int .u64 (.z 0)), (.int .u64 (.z 0)), (.int .i64 (.z 0)), (.int .i64 (.z 0))]), (.agg [(.int .i64 (.z 0)), (.int .i64 (.z 0)), (.int .u64 (.z 0)), (.int .u64 (.z 0)), (.int .i64 (.z 0)), (.int .i64 (.z 0))])], res := (.agg [(.int .i64 (.z 0)), (.int .i64 (.z 0)), (.int .u64 (.z 0)), (.int .u64 (.z 0)), (.int .i64 (.z 0)), (.int .i64 (.z 0))]), sh := [.i (some ((-9223372036854775808), 9223372036854775807)), .i (some ((-9223372036854775808), 9223372036854775807)), .i (some (0, 18446744073709551615)), .i (some (0, 18446744073709551615)), .i (some ((-9223372036854775808), 9223372036854775807)), .i (some ((-9223372036854775808), 9223372036854775807))] }
set_option maxRecDepth 100000 in
def r11join_tree : Tree :=
.ite (.cmp .eq (.v 0) (.z 0)) (.ret (.agg [(.int .i64 (.v 6)), (.int .i64 (.v 7)), (.int .u64 (.v 8)), (.int .u64 (.v 9)), (.int .i64 (.v 10)), (.int .i64 (.v 11))])) <|
.ite (.cmp .eq (.v 6) (.z 0)) (.ret (.agg [(.int .i64 (.v 0)), (.int .i64 (.v 1)), (.int .u64 (.v 2)), (.int .u64 (.v 3)), (.int .i64 (.v 4)), (.int .i64 (.v 5))])) <|
.call 55 [.i (some (0, 18446744073709551615)), .i (some (0, 18446744073709551615)), .b] [.i (.v 2), .i (.v 3), .i (.v 8), .i (.v 9)] <|
.lett (.addw .i64 (.v 0) (.v 6)) <|
.lett (.addw .i64 (.v 1) (.v 7)) <|
.lett (.ite (.cmp .lt (.v 10) (.v 4)) (.v 10) (.v 4)) <|
.lett (.ite (.cmp .lt (.v 5) (.v 11)) (.v 11) (.v 5)) <|
.ret (.agg [(.int .i64 (.v 15)), (.int .i64 (.v 16)), (.int .u64 (.v 12)), (.int .u64 (.v 13)), (.int .i64 (.v 17)), (.int .i64 (.v 18))])
noncomputable def r11join_cx : Ctx := { tys := tys, fns := fns, sps := [(55, radd_sp)], anns := [], trys := [] }
def r11join_ivs : List (Option (Int × Int)) := [some ((-9223372036854775808), 9223372036854775807), some ((-9223372036854775808), 9223372036854775807), some (0, 18446744073709551615), some (0, 18446744073709551615), some ((-9223372036854775808), 9223372036854775807), some ((-9223372036854775808), 9223372036854775807), some ((-9223372036854775808), 9223372036854775807), some ((-9223372036854775808), 9223372036854775807), some (0, 18446744073709551615), some (0, 18446744073709551615), some ((-9223372036854775808), 9223372036854775807), some ((-9223372036854775808), 9223372036854775807)]
set_option maxRecDepth 100000 in
theorem r11join_walk : runFn r11join_cx 3000 28 Try.f28 r11join_sp.args r11join_ivs = r11join_tree := by kernel_rfl
noncomputable def r11join_M : Nat → SpecSem
  | 55 => radd_sem
  | _ => noSem
theorem r11join_M55 : r11join_M 55 = radd_sem := rfl
theorem r11join_cxok : CxOK Try.prog r11join_cx r11join_M := ⟨tysOK, fnsOK, spCons radd_ok <| fun _ _ h => spNil h, mixedOK, fun _ _ h => trNil h⟩
set_option maxRecDepth 100000 in
set_option maxHeartbeats 8000000 in
theorem r11join_den (R RP : Value → Prop) (F : Ex → St → Js → Env → Prop) (J : Js) (x0 : Int) (x1 : Int) (x2 : Int) (x3 : Int) (x4 : Int) (x5 : Int) (x6 : Int) (x7 : Int) (x8 : Int) (x9 : Int) (x10 : Int) (x11 : Int) : Tree.den r11join_M R RP F r11join_tree J [(.i x0), (.i x1), (.i x2), (.i x3), (.i x4), (.i x5), (.i x6), (.i x7), (.i x8), (.i x9), (.i x10), (.i x11)] = (
  ((Cmp.den .eq x0 (0 : Int)) = true → R (Value.agg [(Value.int .i64 x6), (Value.int .i64 x7), (Value.int .u64 x8), (Value.int .u64 x9), (Value.int .i64 x10), (Value.int .i64 x11)].toArray)) ∧ ((Cmp.den .eq x0 (0 : Int)) = false → ((Cmp.den .eq x6 (0 : Int)) = true → R (Value.agg [(Value.int .i64 x0), (Value.int .i64 x1), (Value.int .u64 x2), (Value.int .u64 x3), (Value.int .i64 x4), (Value.int .i64 x5)].toArray)) ∧ ((Cmp.den .eq x6 (0 : Int)) = false → (radd_sem.pre [(.i x2), (.i x3), (.i x8), (.i x9)]) ∧ (
∀ x12 : Int, x12 = (Cv.int (Env.get (radd_sem.out [(.i x2), (.i x3), (.i x8), (.i x9)]) 0)) → (0 : Int) ≤ x12 → x12 ≤ (18446744073709551615 : Int) →
∀ x13 : Int, x13 = (Cv.int (Env.get (radd_sem.out [(.i x2), (.i x3), (.i x8), (.i x9)]) 1)) → (0 : Int) ≤ x13 → x13 ≤ (18446744073709551615 : Int) →
∀ x15 : Int, x15 = (IntKind.i64.wrap (x0 + x6)) →
∀ x16 : Int, x16 = (IntKind.i64.wrap (x1 + x7)) →
∀ x17 : Int, x17 = (if (Cmp.den .lt x10 x4) = true then x10 else x4) →
∀ x18 : Int, x18 = (if (Cmp.den .lt x5 x11) = true then x11 else x5) →
R (Value.agg [(Value.int .i64 x15), (Value.int .i64 x16), (Value.int .u64 x12), (Value.int .u64 x13), (Value.int .i64 x17), (Value.int .i64 x18)].toArray))))) := by kernel_rfl

def r11join_sem : SpecSem := { pre := fun cs => match cs with | [.i n, .i s, .i h, .i l, .i mn, .i mx, .i n2, .i s2, .i h2, .i l2, .i mn2, .i mx2] => IsI n ∧ IsI s ∧ IsU h ∧ IsU l ∧ IsI mn ∧ IsI mx ∧ IsI n2 ∧ IsI s2 ∧ IsU h2 ∧ IsU l2 ∧ IsI mn2 ∧ IsI mx2 ∧ (jnOK n s h l mn mx n2 s2 h2 l2 mn2 mx2 ∧ n + n2 ≤ 1000000000) | _ => False, out := fun cs => match cs with | [.i n, .i s, .i h, .i l, .i mn, .i mx, .i n2, .i s2, .i h2, .i l2, .i mn2, .i mx2] => [.i (n + n2), .i (s + s2), .i ((val h l + val h2 l2) / 18446744073709551616), .i ((val h l + val h2 l2) % 18446744073709551616), .i (jMn n mn n2 mn2), .i (jMx n mx n2 mx2)] | _ => [] }
set_option maxRecDepth 10000 in
set_option maxHeartbeats 16000000 in
theorem r11join_ok : SpecOK Try.prog 28 r11join_sp r11join_sem := by
  refine spec_of_tree r11join_cxok Try.func28 (by kernel_rfl) (by kernel_rfl) r11join_walk rfl ?_
  intro cs hpre
  match cs, hpre with
  | [.i n, .i s, .i h, .i l, .i mn, .i mx, .i n2, .i s2, .i h2, .i l2, .i mn2, .i mx2], ⟨j_n, j_s, j_h, j_l, j_mn, j_mx, j_n2, j_s2, j_h2, j_l2, j_mn2, j_mx2, hx⟩ =>
    have h_n := j_n
    unfold IsI at h_n
    have h_s := j_s
    unfold IsI at h_s
    have h_h := j_h
    unfold IsU at h_h
    have h_l := j_l
    unfold IsU at h_l
    have h_mn := j_mn
    unfold IsI at h_mn
    have h_mx := j_mx
    unfold IsI at h_mx
    have h_n2 := j_n2
    unfold IsI at h_n2
    have h_s2 := j_s2
    unfold IsI at h_s2
    have h_h2 := j_h2
    unfold IsU at h_h2
    have h_l2 := j_l2
    unfold IsU at h_l2
    have h_mn2 := j_mn2
    unfold IsI at h_mn2
    have h_mx2 := j_mx2
    unfold IsI at h_mx2
    refine ⟨rfl, IvsB.ok (by simp only [r11join_ivs, IvsB, Cv.int, and_true] <;> omega), ?_, ?_⟩
    · obtain ⟨c1, c2⟩ := hx
      obtain ⟨a1, a2, a3, a4, a5, a6⟩ := st_rng j_h j_l c1.1
      obtain ⟨b1, b2, b3, b4, b5, b6⟩ := st_rng j_h2 j_l2 c1.2
      have m1 : -1000000 ≤ jMn n mn n2 mn2 ∧ jMn n mn n2 mn2 ≤ 1000000 := by unfold jMn; split <;> (try split) <;> (try split) <;> omega
      have m2 : -1000000 ≤ jMx n mx n2 mx2 ∧ jMx n mx n2 mx2 ≤ 1000000 := by unfold jMx; split <;> (try split) <;> (try split) <;> omega
      simp only [r11join_sem, r11join_sp, Fits, and_true]; omega
    · obtain ⟨⟨c1, c2⟩, c3⟩ := hx
      obtain ⟨a1, a2, a3, a4, a5, a6⟩ := st_rng j_h j_l c1
      obtain ⟨b1, b2, b3, b4, b5, b6⟩ := st_rng j_h2 j_l2 c2
      have w1 : IntKind.i64.wrap (n + n2) = n + n2 := w64 (by omega) (by omega)
      have w2 : IntKind.i64.wrap (s + s2) = s + s2 := w64 (by omega) (by omega)
      have z1 : n = 0 → s = 0 ∧ val h l = 0 := by
        intro k; rcases c1 with q | q
        · refine ⟨q.2.1, ?_⟩; unfold val; omega
        · omega
      have z2 : n2 = 0 → s2 = 0 ∧ val h2 l2 = 0 := by
        intro k; rcases c2 with q | q
        · refine ⟨q.2.1, ?_⟩; unfold val; omega
        · omega
      have z3 : val h l / 18446744073709551616 = h ∧ val h l % 18446744073709551616 = l := by unfold val; omega
      have z4 : val h2 l2 / 18446744073709551616 = h2 ∧ val h2 l2 % 18446744073709551616 = l2 := by unfold val; omega
      have z5 : (val h l + val h2 l2) / 18446744073709551616 % 18446744073709551616 = (val h l + val h2 l2) / 18446744073709551616 := by omega
      rw [r11join_den]
      simp only [r11join_sem, r11join_sp, r11join_den, radd_sem, Tree.den, LE.den, Cv.list, placeA, List.getElem?_cons_zero, List.getElem?_cons_succ, IE.den, BE.den, At.den, CA.den, Env.get, Cv.int, Cv.bool, List.cons_append, List.nil_append, List.map_cons, List.map_nil, bindRes, bindEq, Fits, SV.den, denL, place, placeL, eq_t, eq_f, lt_t, lt_f, le_t, le_f, beq_iff_eq, beq_eq_false_iff_ne, ne_eq, reduceCtorEq, b_dec, decide_eq_true_eq, decide_eq_false_iff_not, Bool.not_eq_false', Bool.or_eq_true, Bool.or_eq_false_iff, Bool.and_eq_false_iff, true_iff, false_iff, Bool.false_eq_true, Bool.not_eq_true', Bool.and_eq_true, Bool.not_true, Bool.not_false, List.cons.injEq, Cv.i.injEq, Cv.b.injEq, and_true, true_and, agg_inj, tup_inj, Value.int.injEq, Value.bool.injEq]
      by_cases k1 : n = 0
      · obtain ⟨q1, q2⟩ := z1 k1
        simp only [jMn, jMx, k1, q1, q2, Int.zero_add, z4, eq_self, forall_eq, if_true, if_false, true_and, and_true, false_and, and_false, true_or, or_true, false_or, or_false, true_iff, iff_true, false_iff, iff_false, not_true_eq_false, not_false_eq_true, true_implies, false_implies, implies_true, forall_const, decide_true, decide_false, reduceCtorEq]
      · by_cases k2 : n2 = 0
        · obtain ⟨q1, q2⟩ := z2 k2
          simp only [jMn, jMx, k1, k2, q1, q2, Int.add_zero, z3, eq_self, forall_eq, if_true, if_false, true_and, and_true, false_and, and_false, true_or, or_true, false_or, or_false, true_iff, iff_true, false_iff, iff_false, not_true_eq_false, not_false_eq_true, true_implies, false_implies, implies_true, forall_const, decide_true, decide_false, reduceCtorEq]
        · simp only [jMn, jMx, k1, k2, w1, w2, z5, j_h, j_l, j_h2, j_l2, eq_self, forall_eq, if_true, if_false, true_and, and_true, false_and, and_false, true_or, or_true, false_or, or_false, true_iff, iff_true, false_iff, iff_false, not_true_eq_false, not_false_eq_true, true_implies, false_implies, implies_true, forall_const, decide_true, decide_false, reduceCtorEq]
def r11in_sp : SpecSh := { args := [(.lst 0)], res := (.bool .f), sh := [.b] }
set_option maxRecDepth 100000 in
def r11in_tree : Tree :=
.lett (.len 0) <|
.loop [.i (some (0, 100000))] [.i (.z 0)] <|
.ite (.cmp .lt (.v 2) (.v 1)) (.lett (.nth 0 (.v 2)) <|
.ite (.cmp .lt (.v 3) (.z (-1000000))) (.ret (.bool .f)) <|
.ite (.cmp .lt (.z 1000000) (.v 3)) (.ret (.bool .f)) <|
.lett (.add (.v 2) (.z 1)) <|
.again 0 [.i (.v 4)]) <|
.ret (.bool .t)
noncomputable def r11in_cx : Ctx := { tys := tys, fns := fns, sps := [], anns := [((25, 2), { slots := [7], cells := [], ivs := [some (0, 100000)] })], trys := [] }
def r11in_ivs : List (Option (Int × Int)) := [none]
set_option maxRecDepth 100000 in
theorem r11in_walk : runFn r11in_cx 3000 25 Try.f25 r11in_sp.args r11in_ivs = r11in_tree := by kernel_rfl
noncomputable def r11in_M : Nat → SpecSem
  | _ => noSem
theorem r11in_cxok : CxOK Try.prog r11in_cx r11in_M := ⟨tysOK, fnsOK, fun _ _ h => spNil h, mixedOK, fun _ _ h => trNil h⟩
set_option maxRecDepth 100000 in
set_option maxHeartbeats 8000000 in
theorem r11in_den (R RP : Value → Prop) (F : Ex → St → Js → Env → Prop) (x0 : List Int) : Tree.den r11in_M R RP F r11in_tree [] [(.l x0)] = (
  ∀ x1 : Int, x1 = ((List.length x0 : Int)) →
∃ (I0 : List Cv → Prop) (mu0 : List Cv → Nat), Fits [.i (some ((0), (100000)))] [(.i (0 : Int))] ∧ I0 [(.i (0 : Int))] ∧ (
∀ x2 : Int, (0 : Int) ≤ x2 → x2 ≤ (100000 : Int) → I0 [.i x2] →
((Cmp.den .lt x2 x1) = true → ∀ x3 : Int, x3 = (List.getD x0 (Int.toNat x2) 0) →
((Cmp.den .lt x3 (-1000000 : Int)) = true → R (Value.bool false)) ∧ ((Cmp.den .lt x3 (-1000000 : Int)) = false → ((Cmp.den .lt (1000000 : Int) x3) = true → R (Value.bool false)) ∧ ((Cmp.den .lt (1000000 : Int) x3) = false → ∀ x4 : Int, x4 = (x2 + (1 : Int)) →
Fits [.i (some ((0), (100000)))] [(.i x4)] ∧ I0 [(.i x4)] ∧ mu0 [(.i x4)] < mu0 [.i x2]))) ∧ ((Cmp.den .lt x2 x1) = false → R (Value.bool true)))) := by kernel_rfl

def r11in_sem : SpecSem := { pre := fun cs => match cs with | [.l xs] => InI xs ∧ ((xs.length : Int) ≤ 100000) | _ => False, out := fun cs => match cs with | [.l xs] => [.b (decide (inS xs))] | _ => [] }
set_option maxRecDepth 10000 in
set_option maxHeartbeats 16000000 in
theorem r11in_ok : SpecOK Try.prog 25 r11in_sp r11in_sem := by
  refine spec_of_tree r11in_cxok Try.func25 (by kernel_rfl) (by kernel_rfl) r11in_walk rfl ?_
  intro cs hpre
  match cs, hpre with
  | [.l xs], ⟨j_xs, hx⟩ =>
    refine ⟨rfl, IvsB.ok (by simp only [r11in_ivs, IvsB, Cv.int, and_true, j_xs, true_and] <;> omega), ?_, ?_⟩
    · simp only [r11in_sem, r11in_sp, Fits]
    · rw [r11in_den]
      simp only [r11in_sem, r11in_sp, r11in_den, Tree.den, LE.den, Cv.list, placeA, List.getElem?_cons_zero, List.getElem?_cons_succ, IE.den, BE.den, At.den, CA.den, Env.get, Cv.int, Cv.bool, List.cons_append, List.nil_append, List.map_cons, List.map_nil, bindRes, bindEq, Fits, SV.den, denL, place, placeL, eq_t, eq_f, lt_t, lt_f, le_t, le_f, beq_iff_eq, beq_eq_false_iff_ne, ne_eq, reduceCtorEq, b_dec, decide_eq_true_eq, decide_eq_false_iff_not, Bool.not_eq_false', Bool.or_eq_true, Bool.or_eq_false_iff, Bool.and_eq_false_iff, true_iff, false_iff, Bool.false_eq_true, Bool.not_eq_true', Bool.and_eq_true, Bool.not_true, Bool.not_false, List.cons.injEq, Cv.i.injEq, Cv.b.injEq, and_true, true_and, agg_inj, tup_inj, Value.int.injEq, Value.bool.injEq]
      intro x1 e1
      refine ⟨fun vs => match vs with | [.i i] => inS (xs.take i.toNat) ∧ i ≤ (xs.length : Int) | _ => False, fun vs => match vs with | .i i :: _ => ((xs.length : Int) - i).toNat | _ => 0, by omega, ⟨inS_nil, by omega⟩, ?_⟩
      intro x2 l2 g2 hI
      obtain ⟨hin, hle⟩ : inS (xs.take x2.toNat) ∧ x2 ≤ (xs.length : Int) := hI
      subst e1
      refine ⟨fun hlt => ?_, fun hge => ?_⟩
      · intro x3 e3
        have hm := getD_mem l2 hlt
        have ht := take_snoc l2 hlt
        rw [← e3] at hm ht
        refine ⟨fun k h => ?_, fun k => ⟨fun k2 h => ?_, fun k2 => ?_⟩⟩
        · have := h x3 hm; omega
        · have := h x3 hm; omega
        · intro x4 e4
          subst e4
          exact ⟨by omega, ⟨by rw [ht]; exact inS_snoc hin ⟨k, k2⟩, by omega⟩, by show (((xs.length : Int) - (x2 + 1)).toNat < ((xs.length : Int) - x2).toNat); omega⟩
      · have ht : xs.take x2.toNat = xs := List.take_of_length_le (by omega)
        rw [ht] at hin
        simp only [hin, eq_self, if_true, if_false, true_and, and_true, false_and, and_false, true_or, or_true, false_or, or_false, true_iff, iff_true, false_iff, iff_false, not_true_eq_false, not_false_eq_true, true_implies, false_implies, implies_true, forall_const, decide_true, decide_false, reduceCtorEq]
def r11of_sp : SpecSh := { args := [(.lst 0)], res := (.agg [(.int .i64 (.z 0)), (.int .i64 (.z 0)), (.int .u64 (.z 0)), (.int .u64 (.z 0)), (.int .i64 (.z 0)), (.int .i64 (.z 0))]), sh := [.i (some ((-9223372036854775808), 9223372036854775807)), .i (some ((-9223372036854775808), 9223372036854775807)), .i (some (0, 18446744073709551615)), .i (some (0, 18446744073709551615)), .i (some ((-9223372036854775808), 9223372036854775807)), .i (some ((-9223372036854775808), 9223372036854775807))] }
set_option maxRecDepth 100000 in
def r11of_tree : Tree :=
.lett (.len 0) <|
.loop [.i (some (0, 100000)), .i (some (0, 100000)), .i (some ((-100000000000), 100000000000)), .i (some (0, 0)), .i (some (0, 100000000000000000)), .i (some ((-1000000), 1000000)), .i (some ((-1000000), 1000000))] [.i (.z 0), .i (.z 0), .i (.z 0), .i (.z 0), .i (.z 0), .i (.z 0), .i (.z 0)] <|
.ite (.cmp .lt (.v 2) (.v 1)) (.lett (.nth 0 (.v 2)) <|
.ite (.cmp .eq (.v 2) (.z 0)) (.lett (.add (.v 3) (.z 1)) <|
.lett (.addw .i64 (.v 4) (.v 9)) <|
.call 54 [.i (some (0, 18446744073709551615)), .i (some (0, 18446744073709551615))] [.i (.v 9)] <|
.call 55 [.i (some (0, 18446744073709551615)), .i (some (0, 18446744073709551615)), .b] [.i (.v 5), .i (.v 6), .i (.v 12), .i (.v 13)] <|
.again 0 [.i (.z 1), .i (.v 10), .i (.v 11), .i (.v 14), .i (.v 15), .i (.v 9), .i (.v 9)]) <|
.lett (.ite (.cmp .lt (.v 9) (.v 7)) (.v 9) (.v 7)) <|
.lett (.ite (.cmp .lt (.v 8) (.v 9)) (.v 9) (.v 8)) <|
.lett (.add (.v 3) (.z 1)) <|
.lett (.addw .i64 (.v 4) (.v 9)) <|
.call 54 [.i (some (0, 18446744073709551615)), .i (some (0, 18446744073709551615))] [.i (.v 9)] <|
.call 55 [.i (some (0, 18446744073709551615)), .i (some (0, 18446744073709551615)), .b] [.i (.v 5), .i (.v 6), .i (.v 14), .i (.v 15)] <|
.lett (.add (.v 2) (.z 1)) <|
.again 0 [.i (.v 19), .i (.v 12), .i (.v 13), .i (.v 16), .i (.v 17), .i (.v 10), .i (.v 11)]) <|
.ret (.agg [(.int .i64 (.v 3)), (.int .i64 (.v 4)), (.int .u64 (.v 5)), (.int .u64 (.v 6)), (.int .i64 (.v 7)), (.int .i64 (.v 8))])
noncomputable def r11of_cx : Ctx := { tys := tys, fns := fns, sps := [(55, radd_sp), (54, r11sq_sp)], anns := [((26, 3), { slots := [9], cells := [(2, 0), (2, 1), (2, 2), (2, 3), (2, 4), (2, 5)], ivs := [some (0, 100000), some (0, 100000), some ((-100000000000), 100000000000), some (0, 0), some (0, 100000000000000000), some ((-1000000), 1000000), some ((-1000000), 1000000)] })], trys := [] }
def r11of_ivs : List (Option (Int × Int)) := [none]
set_option maxRecDepth 100000 in
theorem r11of_walk : runFn r11of_cx 3000 26 Try.f26 r11of_sp.args r11of_ivs = r11of_tree := by kernel_rfl
noncomputable def r11of_M : Nat → SpecSem
  | 55 => radd_sem
  | 54 => r11sq_sem
  | _ => noSem
theorem r11of_M55 : r11of_M 55 = radd_sem := rfl
theorem r11of_M54 : r11of_M 54 = r11sq_sem := rfl
theorem r11of_cxok : CxOK Try.prog r11of_cx r11of_M := ⟨tysOK, fnsOK, spCons radd_ok <| spCons r11sq_ok <| fun _ _ h => spNil h, mixedOK, fun _ _ h => trNil h⟩
set_option maxRecDepth 100000 in
set_option maxHeartbeats 8000000 in
theorem r11of_den (R RP : Value → Prop) (F : Ex → St → Js → Env → Prop) (x0 : List Int) : Tree.den r11of_M R RP F r11of_tree [] [(.l x0)] = (
  ∀ x1 : Int, x1 = ((List.length x0 : Int)) →
∃ (I0 : List Cv → Prop) (mu0 : List Cv → Nat), Fits [.i (some ((0), (100000))), .i (some ((0), (100000))), .i (some ((-100000000000), (100000000000))), .i (some ((0), (0))), .i (some ((0), (100000000000000000))), .i (some ((-1000000), (1000000))), .i (some ((-1000000), (1000000)))] [(.i (0 : Int)), (.i (0 : Int)), (.i (0 : Int)), (.i (0 : Int)), (.i (0 : Int)), (.i (0 : Int)), (.i (0 : Int))] ∧ I0 [(.i (0 : Int)), (.i (0 : Int)), (.i (0 : Int)), (.i (0 : Int)), (.i (0 : Int)), (.i (0 : Int)), (.i (0 : Int))] ∧ (
∀ x2 : Int, (0 : Int) ≤ x2 → x2 ≤ (100000 : Int) → ∀ x3 : Int, (0 : Int) ≤ x3 → x3 ≤ (100000 : Int) → ∀ x4 : Int, (-100000000000 : Int) ≤ x4 → x4 ≤ (100000000000 : Int) → ∀ x5 : Int, (0 : Int) ≤ x5 → x5 ≤ (0 : Int) → ∀ x6 : Int, (0 : Int) ≤ x6 → x6 ≤ (100000000000000000 : Int) → ∀ x7 : Int, (-1000000 : Int) ≤ x7 → x7 ≤ (1000000 : Int) → ∀ x8 : Int, (-1000000 : Int) ≤ x8 → x8 ≤ (1000000 : Int) → I0 [.i x2, .i x3, .i x4, .i x5, .i x6, .i x7, .i x8] →
((Cmp.den .lt x2 x1) = true → ∀ x9 : Int, x9 = (List.getD x0 (Int.toNat x2) 0) →
((Cmp.den .eq x2 (0 : Int)) = true → ∀ x10 : Int, x10 = (x3 + (1 : Int)) →
∀ x11 : Int, x11 = (IntKind.i64.wrap (x4 + x9)) →
(r11sq_sem.pre [(.i x9)]) ∧ (
∀ x12 : Int, x12 = (Cv.int (Env.get (r11sq_sem.out [(.i x9)]) 0)) → (0 : Int) ≤ x12 → x12 ≤ (18446744073709551615 : Int) →
∀ x13 : Int, x13 = (Cv.int (Env.get (r11sq_sem.out [(.i x9)]) 1)) → (0 : Int) ≤ x13 → x13 ≤ (18446744073709551615 : Int) →
(radd_sem.pre [(.i x5), (.i x6), (.i x12), (.i x13)]) ∧ (
∀ x14 : Int, x14 = (Cv.int (Env.get (radd_sem.out [(.i x5), (.i x6), (.i x12), (.i x13)]) 0)) → (0 : Int) ≤ x14 → x14 ≤ (18446744073709551615 : Int) →
∀ x15 : Int, x15 = (Cv.int (Env.get (radd_sem.out [(.i x5), (.i x6), (.i x12), (.i x13)]) 1)) → (0 : Int) ≤ x15 → x15 ≤ (18446744073709551615 : Int) →
Fits [.i (some ((0), (100000))), .i (some ((0), (100000))), .i (some ((-100000000000), (100000000000))), .i (some ((0), (0))), .i (some ((0), (100000000000000000))), .i (some ((-1000000), (1000000))), .i (some ((-1000000), (1000000)))] [(.i (1 : Int)), (.i x10), (.i x11), (.i x14), (.i x15), (.i x9), (.i x9)] ∧ I0 [(.i (1 : Int)), (.i x10), (.i x11), (.i x14), (.i x15), (.i x9), (.i x9)] ∧ mu0 [(.i (1 : Int)), (.i x10), (.i x11), (.i x14), (.i x15), (.i x9), (.i x9)] < mu0 [.i x2, .i x3, .i x4, .i x5, .i x6, .i x7, .i x8]))) ∧ ((Cmp.den .eq x2 (0 : Int)) = false → ∀ x10 : Int, x10 = (if (Cmp.den .lt x9 x7) = true then x9 else x7) →
∀ x11 : Int, x11 = (if (Cmp.den .lt x8 x9) = true then x9 else x8) →
∀ x12 : Int, x12 = (x3 + (1 : Int)) →
∀ x13 : Int, x13 = (IntKind.i64.wrap (x4 + x9)) →
(r11sq_sem.pre [(.i x9)]) ∧ (
∀ x14 : Int, x14 = (Cv.int (Env.get (r11sq_sem.out [(.i x9)]) 0)) → (0 : Int) ≤ x14 → x14 ≤ (18446744073709551615 : Int) →
∀ x15 : Int, x15 = (Cv.int (Env.get (r11sq_sem.out [(.i x9)]) 1)) → (0 : Int) ≤ x15 → x15 ≤ (18446744073709551615 : Int) →
(radd_sem.pre [(.i x5), (.i x6), (.i x14), (.i x15)]) ∧ (
∀ x16 : Int, x16 = (Cv.int (Env.get (radd_sem.out [(.i x5), (.i x6), (.i x14), (.i x15)]) 0)) → (0 : Int) ≤ x16 → x16 ≤ (18446744073709551615 : Int) →
∀ x17 : Int, x17 = (Cv.int (Env.get (radd_sem.out [(.i x5), (.i x6), (.i x14), (.i x15)]) 1)) → (0 : Int) ≤ x17 → x17 ≤ (18446744073709551615 : Int) →
∀ x19 : Int, x19 = (x2 + (1 : Int)) →
Fits [.i (some ((0), (100000))), .i (some ((0), (100000))), .i (some ((-100000000000), (100000000000))), .i (some ((0), (0))), .i (some ((0), (100000000000000000))), .i (some ((-1000000), (1000000))), .i (some ((-1000000), (1000000)))] [(.i x19), (.i x12), (.i x13), (.i x16), (.i x17), (.i x10), (.i x11)] ∧ I0 [(.i x19), (.i x12), (.i x13), (.i x16), (.i x17), (.i x10), (.i x11)] ∧ mu0 [(.i x19), (.i x12), (.i x13), (.i x16), (.i x17), (.i x10), (.i x11)] < mu0 [.i x2, .i x3, .i x4, .i x5, .i x6, .i x7, .i x8])))) ∧ ((Cmp.den .lt x2 x1) = false → R (Value.agg [(Value.int .i64 x3), (Value.int .i64 x4), (Value.int .u64 x5), (Value.int .u64 x6), (Value.int .i64 x7), (Value.int .i64 x8)].toArray)))) := by kernel_rfl

def r11of_sem : SpecSem := { pre := fun cs => match cs with | [.l xs] => InI xs ∧ ((xs.length : Int) ≤ 100000 ∧ inS xs) | _ => False, out := fun cs => match cs with | [.l xs] => [.i (xs.length : Int), .i (sumL xs), .i 0, .i (sqL xs), .i (minS xs), .i (maxS xs)] | _ => [] }
set_option maxRecDepth 10000 in
set_option maxHeartbeats 16000000 in
theorem r11of_ok : SpecOK Try.prog 26 r11of_sp r11of_sem := by
  refine spec_of_tree r11of_cxok Try.func26 (by kernel_rfl) (by kernel_rfl) r11of_walk rfl ?_
  intro cs hpre
  match cs, hpre with
  | [.l xs], ⟨j_xs, hx⟩ =>
    refine ⟨rfl, IvsB.ok (by simp only [r11of_ivs, IvsB, Cv.int, and_true, j_xs, true_and] <;> omega), ?_, ?_⟩
    · have := sts_rng hx.2 hx.1
      simp only [r11of_sem, r11of_sp, Fits, and_true]; omega
    · rw [r11of_den]
      simp only [r11of_sem, r11of_sp, r11of_den, radd_sem, r11sq_sem, Tree.den, LE.den, Cv.list, placeA, List.getElem?_cons_zero, List.getElem?_cons_succ, IE.den, BE.den, At.den, CA.den, Env.get, Cv.int, Cv.bool, List.cons_append, List.nil_append, List.map_cons, List.map_nil, bindRes, bindEq, Fits, SV.den, denL, place, placeL, eq_t, eq_f, lt_t, lt_f, le_t, le_f, beq_iff_eq, beq_eq_false_iff_ne, ne_eq, reduceCtorEq, b_dec, decide_eq_true_eq, decide_eq_false_iff_not, Bool.not_eq_false', Bool.or_eq_true, Bool.or_eq_false_iff, Bool.and_eq_false_iff, true_iff, false_iff, Bool.false_eq_true, Bool.not_eq_true', Bool.and_eq_true, Bool.not_true, Bool.not_false, List.cons.injEq, Cv.i.injEq, Cv.b.injEq, and_true, true_and, agg_inj, tup_inj, Value.int.injEq, Value.bool.injEq]
      intro x1 e1
      refine ⟨fun vs => match vs with | [.i i, .i n, .i s, .i h, .i l, .i a, .i b] => (n = i ∧ s = sumL (xs.take i.toNat) ∧ l = sqL (xs.take i.toNat) ∧ a = minS (xs.take i.toNat) ∧ b = maxS (xs.take i.toNat)) ∧ i ≤ (xs.length : Int) | _ => False, fun vs => match vs with | .i i :: _ => ((xs.length : Int) - i).toNat | _ => 0, by omega, ⟨⟨rfl, rfl, rfl, rfl, rfl⟩, by omega⟩, ?_⟩
      intro x2 l2 g2 x3 l3 g3 x4 l4 g4 x5 l5 g5 x6 l6 g6 x7 l7 g7 x8 l8 g8 hI
      obtain ⟨⟨i1, i2, i3, i4, i5⟩, hle⟩ : (x3 = x2 ∧ x4 = sumL (xs.take x2.toNat) ∧ x6 = sqL (xs.take x2.toNat) ∧ x7 = minS (xs.take x2.toNat) ∧ x8 = maxS (xs.take x2.toNat)) ∧ x2 ≤ (xs.length : Int) := hI
      have z5 : x5 = 0 := by omega
      subst e1 z5
      refine ⟨fun hlt => ?_, fun hge => ?_⟩
      · intro x9 e9
        obtain ⟨n1, n2, n3, n4, n5⟩ := sts_next l2 hlt e9
        have hm := getD_mem l2 hlt
        rw [← e9] at hm
        have k1 := hx.2 x9 hm
        have rg := sts_rng (inS_take (x2 + 1).toNat hx.2) (by omega)
        rw [← i2] at n1
        rw [← i3] at n2
        rw [← i4] at n3
        rw [← i5] at n4
        have iz : x3 = 0 → x4 = 0 ∧ x6 = 0 := by
          intro z
          rw [i2, i3, ← i1, z]
          exact ⟨rfl, rfl⟩
        rw [n1, n2, n3, n4] at rg
        subst i1
        have sq1 := sq_nonneg x9
        have k6 : IsI x4 := ⟨by omega, by omega⟩
        have k7 : IsU x6 := ⟨by omega, by omega⟩
        have k10 : IsI x9 := ⟨by omega, by omega⟩
        have k12 : IsU 0 := ⟨by omega, by omega⟩
        have y4 : -1000000000000000 ≤ x9 ∧ x9 ≤ 1000000000000000 := by omega
        have q0 : x9 * x9 / 18446744073709551616 = 0 := by omega
        have q3 : x9 * x9 % 18446744073709551616 = x9 * x9 := by omega
        have k11 : IsU (x9 * x9) := ⟨by omega, by omega⟩
        have q1 : (x6 + x9 * x9) / 18446744073709551616 % 18446744073709551616 = 0 := by omega
        have q2 : (x6 + x9 * x9) % 18446744073709551616 = x6 + x9 * x9 := by omega
        have w2 : IntKind.i64.wrap (x4 + x9) = x4 + x9 := w64 (by omega) (by omega)
        simp only [k6, k7, k10, k11, k12, y4, val0, q0, q1, q2, q3, w2, forall_eq, eq_self, if_true, if_false, true_and, and_true, false_and, and_false, true_or, or_true, false_or, or_false, true_iff, iff_true, false_iff, iff_false, not_true_eq_false, not_false_eq_true, true_implies, false_implies, implies_true, forall_const, decide_true, decide_false, reduceCtorEq]
        by_cases z : x3 = 0
        · simp only [z, if_true, if_false, true_and, and_true, false_and, and_false, true_or, or_true, false_or, or_false, true_iff, iff_true, false_iff, iff_false, not_true_eq_false, not_false_eq_true, true_implies, false_implies, implies_true, forall_const, decide_true, decide_false, reduceCtorEq] at n3 n4 rg ⊢
          rw [z] at n1 n2 n5 hlt
          intros
          exact ⟨by omega, ⟨⟨rfl, n1.symm, n2.symm, n3.symm, n4.symm⟩, by omega⟩, by omega⟩
        · simp only [z, if_true, if_false, true_and, and_true, false_and, and_false, true_or, or_true, false_or, or_false, true_iff, iff_true, false_iff, iff_false, not_true_eq_false, not_false_eq_true, true_implies, false_implies, implies_true, forall_const, decide_true, decide_false, reduceCtorEq] at n3 n4 rg ⊢
          generalize (if x9 < x7 then x9 else x7) = M at *
          generalize (if x8 < x9 then x9 else x8) = K at *
          intros
          exact ⟨by omega, ⟨⟨n1.symm, n2.symm, n3.symm, n4.symm⟩, by omega⟩, by omega⟩
      · have ht : xs.take x2.toNat = xs := List.take_of_length_le (by omega)
        rw [ht] at i2 i3 i4 i5
        have z3 : x3 = (xs.length : Int) := by omega
        subst i2 i3 i4 i5 z3
        simp only [eq_self, if_true, if_false, true_and, and_true, false_and, and_false, true_or, or_true, false_or, or_false, true_iff, iff_true, false_iff, iff_false, not_true_eq_false, not_false_eq_true, true_implies, false_implies, implies_true, forall_const, decide_true, decide_false, reduceCtorEq]
end Go.Proofs.Ytgnihomdpandfaa.X
