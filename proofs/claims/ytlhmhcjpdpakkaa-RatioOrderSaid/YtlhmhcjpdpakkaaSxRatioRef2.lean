/-
  The contracts of the reference's ratios (datumref06), for every input in range: those that reckon with two.
-/
import Derived.Test.YtlhmhcjpdpakkaaSxRatioRef
namespace Go.Proofs.Ytlhmhcjpdpakkaa.X
open Go Go.SX Go.RowKit
set_option linter.unusedVariables false
set_option linter.unusedSimpArgs false






/-- what is told is so: whatever way it was decided by -/
theorem dec_t {p : Prop} {i : Decidable p} : (@decide p i = true) = p := by simp
theorem dec_f {p : Prop} {i : Decidable p} : (@decide p i = false) = ¬p := by simp
theorem dec_b {x : Bool} {p : Prop} {i : Decidable p} : (x = @decide p i) ↔ (x = true ↔ p) := by cases x <;> simp
def svSgn2 (b c : Bool) (m n : Int) : Bool := if b = c then b else if b = true then decide (n < m) else decide (m < n)
theorem sv_sum2 {b c : Bool} {m n : Int} : sv (svSgn2 b c m n) (svSum b c m n) = sv b m + sv c n := by
  unfold sv svSgn2 svSum
  cases b <;> cases c <;> by_cases h : n ≤ m <;> by_cases h2 : n < m <;> by_cases h3 : m < n <;> simp [h, h2, h3] <;> omega
def r4plus_sp : SpecSh := { args := [(.agg [(.bool .f), (.int .u64 (.z 0)), (.int .u64 (.z 0))]), (.agg [(.bool .f), (.int .u64 (.z 0)), (.int .u64 (.z 0))])], res := (.agg [(.bool .f), (.int .u64 (.z 0)), (.int .u64 (.z 0))]), sh := [.b, .i (some (0, 18446744073709551615)), .i (some (0, 18446744073709551615))] }
set_option maxRecDepth 100000 in
def r4plus_tree : Tree :=
.ite (.eqv (.v 0) (.v 3)) (.call 146 [.i (some (0, 18446744073709551615)), .i (some (0, 18446744073709551615)), .b] [.i (.v 1), .i (.v 2), .i (.v 4), .i (.v 5)] <|
.ret (.agg [(.bool (.v 0)), (.int .u64 (.v 6)), (.int .u64 (.v 7))])) <|
.ite (.not (.cmp .eq (.v 1) (.v 4))) (.ite (.cmp .lt (.v 1) (.v 4)) (.call 177 [.i (some (0, 18446744073709551615)), .i (some (0, 18446744073709551615)), .b] [.i (.v 4), .i (.v 5), .i (.v 1), .i (.v 2)] <|
.ret (.agg [(.bool (.v 3)), (.int .u64 (.v 6)), (.int .u64 (.v 7))])) <|
.call 177 [.i (some (0, 18446744073709551615)), .i (some (0, 18446744073709551615)), .b] [.i (.v 1), .i (.v 2), .i (.v 4), .i (.v 5)] <|
.ite (.v 0) (.ret (.agg [(.bool (.not (.and (.cmp .eq (.v 6) (.z 0)) (.cmp .eq (.v 7) (.z 0))))), (.int .u64 (.v 6)), (.int .u64 (.v 7))])) <|
.ret (.agg [(.bool .f), (.int .u64 (.v 6)), (.int .u64 (.v 7))])) <|
.ite (.cmp .lt (.v 2) (.v 5)) (.call 177 [.i (some (0, 18446744073709551615)), .i (some (0, 18446744073709551615)), .b] [.i (.v 4), .i (.v 5), .i (.v 1), .i (.v 2)] <|
.ret (.agg [(.bool (.v 3)), (.int .u64 (.v 6)), (.int .u64 (.v 7))])) <|
.call 177 [.i (some (0, 18446744073709551615)), .i (some (0, 18446744073709551615)), .b] [.i (.v 1), .i (.v 2), .i (.v 4), .i (.v 5)] <|
.ite (.v 0) (.ret (.agg [(.bool (.not (.and (.cmp .eq (.v 6) (.z 0)) (.cmp .eq (.v 7) (.z 0))))), (.int .u64 (.v 6)), (.int .u64 (.v 7))])) <|
.ret (.agg [(.bool .f), (.int .u64 (.v 6)), (.int .u64 (.v 7))])
noncomputable def r4plus_cx : Ctx := { tys := tys, fns := fns, sps := [(146, radd_sp), (177, rsub_sp)], anns := [], trys := [] }
def r4plus_ivs : List (Option (Int × Int)) := [none, some (0, 18446744073709551615), some (0, 18446744073709551615), none, some (0, 18446744073709551615), some (0, 18446744073709551615)]
set_option maxRecDepth 100000 in
theorem r4plus_walk : runFn r4plus_cx 3000 130 Try.f130 r4plus_sp.args r4plus_ivs = r4plus_tree := by kernel_rfl
noncomputable def r4plus_M : Nat → SpecSem
  | 146 => radd_sem
  | 177 => rsub_sem
  | _ => noSem
theorem r4plus_M146 : r4plus_M 146 = radd_sem := rfl
theorem r4plus_M177 : r4plus_M 177 = rsub_sem := rfl
theorem r4plus_cxok : CxOK Try.prog r4plus_cx r4plus_M := ⟨tysOK, fnsOK, spCons radd_ok <| spCons rsub_ok <| fun _ _ h => spNil h, mixedOK, fun _ _ h => trNil h⟩

def r4plus_sem : SpecSem := { pre := qplus_sem.pre, out := fun cs => match cs with | [.b b, .i m1, .i m0, .b c, .i n1, .i n0] => [.b (svSgn2 b c (val m1 m0) (val n1 n0)), .i (svSum b c (val m1 m0) (val n1 n0) / 18446744073709551616), .i (svSum b c (val m1 m0) (val n1 n0) % 18446744073709551616)] | _ => [] }
theorem r4plus_ok : SpecOK Try.prog 130 r4plus_sp r4plus_sem := by
  refine spec_of_tree r4plus_cxok Try.func130 (by kernel_rfl) (by kernel_rfl) r4plus_walk rfl ?_
  intro cs hpre
  match cs, hpre with
  | [.b b, .i m1, .i m0, .b c, .i n1, .i n0], ⟨⟨h1, h2⟩, ⟨h3, h4⟩, ⟨h5, h6⟩, ⟨h7, h8⟩, h9, h10⟩ =>
    have hm : 0 ≤ val m1 m0 := by unfold val; omega
    have hn : 0 ≤ val n1 n0 := by unfold val; omega
    refine ⟨rfl, IvsB.ok (by simp only [r4plus_ivs, IvsB, Cv.int, and_true]; omega), ?_, ?_⟩
    · simp only [r4plus_sem, r4plus_sp, Fits, and_true, svSum]; (repeat' split) <;> omega
    · simp only [r4plus_sem, r4plus_sp, IsU, svSum, svSgn2, ceq_and, not_dec, decide_eq_decide, r4plus_tree, r4plus_M146, radd_sem, r4plus_M177, rsub_sem, Tree.den, List.getElem?_cons_zero, List.getElem?_cons_succ, IE.den, BE.den, At.den, CA.den, Env.get, Cv.int, Cv.bool, List.cons_append, List.nil_append, List.map_cons, List.map_nil, bindRes, bindEq, Fits, SV.den, denL, place, placeL, eq_t, eq_f, lt_t, lt_f, le_t, le_f, beq_iff_eq, beq_eq_false_iff_ne, ne_eq, reduceCtorEq, b_dec, decide_eq_true_eq, decide_eq_false_iff_not, Bool.not_eq_false', Bool.or_eq_true, Bool.or_eq_false_iff, Bool.and_eq_false_iff, true_iff, false_iff, Bool.false_eq_true, Bool.not_eq_true', Bool.and_eq_true, Bool.not_true, Bool.not_false, List.cons.injEq, Cv.i.injEq, Cv.b.injEq, and_true, true_and, agg_inj, tup_inj, Value.int.injEq, Value.bool.injEq]
      have eM : val m1 m0 = m1 * 18446744073709551616 + m0 := rfl
      have eN : val n1 n0 = n1 * 18446744073709551616 + n0 := rfl
      cases b <;> cases c <;> simp only [dec_b, dec_t, dec_f, if_true, if_false, true_and, and_true, false_and, and_false, true_or, or_true, false_or, or_false, true_iff, iff_true, false_iff, iff_false, not_true_eq_false, not_false_eq_true, true_implies, false_implies, implies_true, forall_const, decide_true, decide_false, reduceCtorEq]
      all_goals (generalize val m1 m0 = m at *; generalize val n1 n0 = n at *)
      all_goals ((repeat' (first | intro _ | refine And.intro ?_ ?_ | exact trivial)) <;> first | omega | (refine Iff.trans (Iff.of_eq dec_t) ?_; omega))
def r4less_sp : SpecSh := { args := [(.agg [(.bool .f), (.int .u64 (.z 0)), (.int .u64 (.z 0))]), (.agg [(.bool .f), (.int .u64 (.z 0)), (.int .u64 (.z 0))])], res := (.bool .f), sh := [.b] }
set_option maxRecDepth 100000 in
def r4less_tree : Tree :=
.ite (.not (.eqv (.v 0) (.v 3))) (.ret (.bool (.v 0))) <|
.ite (.v 0) (.ite (.not (.cmp .eq (.v 4) (.v 1))) (.ret (.bool (.cmp .lt (.v 4) (.v 1)))) <|
.ret (.bool (.cmp .lt (.v 5) (.v 2)))) <|
.ite (.not (.cmp .eq (.v 1) (.v 4))) (.ret (.bool (.cmp .lt (.v 1) (.v 4)))) <|
.ret (.bool (.cmp .lt (.v 2) (.v 5)))
noncomputable def r4less_cx : Ctx := { tys := tys, fns := fns, sps := [], anns := [], trys := [] }
def r4less_ivs : List (Option (Int × Int)) := [none, some (0, 18446744073709551615), some (0, 18446744073709551615), none, some (0, 18446744073709551615), some (0, 18446744073709551615)]
set_option maxRecDepth 100000 in
theorem r4less_walk : runFn r4less_cx 3000 132 Try.f132 r4less_sp.args r4less_ivs = r4less_tree := by kernel_rfl
noncomputable def r4less_M : Nat → SpecSem
  | _ => noSem
theorem r4less_cxok : CxOK Try.prog r4less_cx r4less_M := ⟨tysOK, fnsOK, fun _ _ h => spNil h, mixedOK, fun _ _ h => trNil h⟩

def r4less_sem : SpecSem := { pre := fun cs => match cs with | [.b b, .i m1, .i m0, .b c, .i n1, .i n0] => IsU m1 ∧ IsU m0 ∧ IsU n1 ∧ IsU n0 ∧ (b = true → val m1 m0 ≠ 0) ∧ (c = true → val n1 n0 ≠ 0) | _ => False, out := fun cs => match cs with | [.b b, .i m1, .i m0, .b c, .i n1, .i n0] => [.b (decide (sv b (val m1 m0) < sv c (val n1 n0)))] | _ => [] }
theorem r4less_ok : SpecOK Try.prog 132 r4less_sp r4less_sem := by
  refine spec_of_tree r4less_cxok Try.func132 (by kernel_rfl) (by kernel_rfl) r4less_walk rfl ?_
  intro cs hpre
  match cs, hpre with
  | [.b b, .i m1, .i m0, .b c, .i n1, .i n0], ⟨⟨h1, h2⟩, ⟨h3, h4⟩, ⟨h5, h6⟩, ⟨h7, h8⟩, h9, h10⟩ =>
    have hm : 0 ≤ val m1 m0 := by unfold val; omega
    have hn : 0 ≤ val n1 n0 := by unfold val; omega
    refine ⟨rfl, IvsB.ok (by simp only [r4less_ivs, IvsB, Cv.int, and_true]; omega), ?_, ?_⟩
    · simp only [r4less_sem, r4less_sp, Fits]
    · simp only [r4less_sem, r4less_sp, IsU, ceq_and, not_dec, decide_eq_decide, r4less_tree, Tree.den, List.getElem?_cons_zero, List.getElem?_cons_succ, IE.den, BE.den, At.den, CA.den, Env.get, Cv.int, Cv.bool, List.cons_append, List.nil_append, List.map_cons, List.map_nil, bindRes, bindEq, Fits, SV.den, denL, place, placeL, eq_t, eq_f, lt_t, lt_f, le_t, le_f, beq_iff_eq, beq_eq_false_iff_ne, ne_eq, reduceCtorEq, b_dec, decide_eq_true_eq, decide_eq_false_iff_not, Bool.not_eq_false', Bool.or_eq_true, Bool.or_eq_false_iff, Bool.and_eq_false_iff, true_iff, false_iff, Bool.false_eq_true, Bool.not_eq_true', Bool.and_eq_true, Bool.not_true, Bool.not_false, List.cons.injEq, Cv.i.injEq, Cv.b.injEq, and_true, true_and, agg_inj, tup_inj, Value.int.injEq, Value.bool.injEq]
      unfold val at *
      cases b <;> cases c <;> simp only [sv, decide_eq_decide, b_dec, if_true, if_false, true_and, and_true, false_and, and_false, true_or, or_true, false_or, or_false, true_iff, iff_true, false_iff, iff_false, not_true_eq_false, not_false_eq_true, true_implies, false_implies, implies_true, forall_const, decide_true, decide_false, reduceCtorEq] at h9 h10 ⊢
      all_goals (repeat' (first | intro _ | refine And.intro ?_ ?_ | exact trivial)) <;> omega
def r6new_sp : SpecSh := { args := [(.int .i64 (.z 0)), (.int .i64 (.z 0))], res := (.tup [(.agg [(.int .i64 (.z 0)), (.int .i64 (.z 0))]), (.int .i64 (.z 0))]), sh := [.i (some ((-9223372036854775808), 9223372036854775807)), .i (some ((-9223372036854775808), 9223372036854775807)), .i (some ((-9223372036854775808), 9223372036854775807))] }
set_option maxRecDepth 100000 in
def r6new_tree : Tree :=
.call 104 [.i (some (0, 18446744073709551615)), .i (some (0, 18446744073709551615))] [.i (.v 0)] <|
.call 104 [.i (some (0, 18446744073709551615)), .i (some (0, 18446744073709551615))] [.i (.v 1)] <|
.call 107 [.i (some ((-9223372036854775808), 9223372036854775807)), .i (some ((-9223372036854775808), 9223372036854775807)), .i (some ((-9223372036854775808), 9223372036854775807))] [.b (.not (.eqv (.cmp .lt (.v 0) (.z 0)) (.cmp .lt (.v 1) (.z 0)))), .i (.v 2), .i (.v 3), .i (.v 4), .i (.v 5)] <|
.ret (.tup [(.agg [(.int .i64 (.v 6)), (.int .i64 (.v 7))]), (.int .i64 (.v 8))])
noncomputable def r6new_cx : Ctx := { tys := tys, fns := fns, sps := [(104, r4size_sp), (107, r6low_sp)], anns := [], trys := [] }
def r6new_ivs : List (Option (Int × Int)) := [some ((-9223372036854775808), 9223372036854775807), some ((-9223372036854775808), 9223372036854775807)]
set_option maxRecDepth 100000 in
theorem r6new_walk : runFn r6new_cx 3000 42 Try.f42 r6new_sp.args r6new_ivs = r6new_tree := by kernel_rfl
noncomputable def r6new_M : Nat → SpecSem
  | 104 => r4size_sem
  | 107 => r6low_sem
  | _ => noSem
theorem r6new_M104 : r6new_M 104 = r4size_sem := rfl
theorem r6new_M107 : r6new_M 107 = r6low_sem := rfl
theorem r6new_cxok : CxOK Try.prog r6new_cx r6new_M := ⟨tysOK, fnsOK, spCons r4size_ok <| spCons r6low_ok <| fun _ _ h => spNil h, mixedOK, fun _ _ h => trNil h⟩

def r6new_sem : SpecSem := { pre := fun cs => match cs with | [.i n, .i d] => IsI n ∧ IsI d ∧ d ≠ 0 | _ => False, out := fun cs => match cs with | [.i n, .i d] => rt (if d < 0 then -n else n) (absZ d) | _ => [] }
theorem r6new_ok : SpecOK Try.prog 42 r6new_sp r6new_sem := by
  refine spec_of_tree r6new_cxok Try.func42 (by kernel_rfl) (by kernel_rfl) r6new_walk rfl ?_
  intro cs hpre
  match cs, hpre with
  | [.i n, .i d], ⟨⟨h1, h2⟩, ⟨h3, h4⟩, hz⟩ =>
    obtain ⟨z1, z2⟩ := absZ_le (a := n) ⟨h1, h2⟩
    obtain ⟨z3, z4⟩ := absZ_le (a := d) ⟨h3, h4⟩
    refine ⟨rfl, IvsB.ok (by simp only [r6new_ivs, IvsB, Cv.int, and_true]; omega), ?_, ?_⟩
    · simp only [r6new_sem, r6new_sp, rt, Fits, and_true]; have := rt_fits (if d < 0 then -n else n) (absZ d); omega
    · simp only [r6new_sem, r4size_sem, r6low_sem, qlow_sem, rt, r6new_sp, IsU, IsI, lt_beq, r6new_tree, r6new_M104, r4size_sem, r6new_M107, r6low_sem, Tree.den, List.getElem?_cons_zero, List.getElem?_cons_succ, IE.den, BE.den, At.den, CA.den, Env.get, Cv.int, Cv.bool, List.cons_append, List.nil_append, List.map_cons, List.map_nil, bindRes, bindEq, Fits, SV.den, denL, place, placeL, eq_t, eq_f, lt_t, lt_f, le_t, le_f, beq_iff_eq, beq_eq_false_iff_ne, ne_eq, reduceCtorEq, b_dec, decide_eq_true_eq, decide_eq_false_iff_not, Bool.not_eq_false', Bool.or_eq_true, Bool.or_eq_false_iff, Bool.and_eq_false_iff, true_iff, false_iff, Bool.false_eq_true, Bool.not_eq_true', Bool.and_eq_true, Bool.not_true, Bool.not_false, List.cons.injEq, Cv.i.injEq, Cv.b.injEq, and_true, true_and, agg_inj, tup_inj, Value.int.injEq, Value.bool.injEq]
      have hd0 : absZ d ≠ 0 := by unfold absZ; split <;> omega
      have hs : sv (!decide (n < 0 ↔ d < 0)) (absZ n) = if d < 0 then -n else n := by
        unfold sv absZ
        by_cases c1 : n < 0 <;> by_cases c2 : d < 0 <;> simp [c1, c2]
      refine ⟨by omega, ?_⟩
      intro x hx _ _ x' hx' _ _
      refine ⟨by omega, ?_⟩
      intro y hy _ _ y' hy' _ _
      subst hx hy hx' hy'
      simp only [val0, hs, hd0, if_true, if_false, true_and, and_true, false_and, and_false, true_or, or_true, false_or, or_false, true_iff, iff_true, false_iff, iff_false, not_true_eq_false, not_false_eq_true, true_implies, false_implies, implies_true, forall_const, decide_true, decide_false, reduceCtorEq]
      (repeat' (first | intro _ | refine And.intro ?_ ?_ | exact trivial)) <;> omega
def r6cmp_sp : SpecSh := { args := [(.agg [(.int .i64 (.z 0)), (.int .i64 (.z 0))]), (.agg [(.int .i64 (.z 0)), (.int .i64 (.z 0))])], res := (.int .i64 (.z 0)), sh := [.i (some ((-9223372036854775808), 9223372036854775807))] }
set_option maxRecDepth 100000 in
def r6cmp_tree : Tree :=
.call 131 [.b, .i (some (0, 18446744073709551615)), .i (some (0, 18446744073709551615))] [.i (.v 0), .i (.v 3)] <|
.call 131 [.b, .i (some (0, 18446744073709551615)), .i (some (0, 18446744073709551615))] [.i (.v 2), .i (.v 1)] <|
.call 132 [.b] [.b (.v 4), .i (.v 5), .i (.v 6), .b (.v 7), .i (.v 8), .i (.v 9)] <|
.ite (.v 10) (.ret (.int .i64 (.z (-1)))) <|
.call 132 [.b] [.b (.v 7), .i (.v 8), .i (.v 9), .b (.v 4), .i (.v 5), .i (.v 6)] <|
.ite (.v 11) (.ret (.int .i64 (.z 1))) <|
.ret (.int .i64 (.z 0))
noncomputable def r6cmp_cx : Ctx := { tys := tys, fns := fns, sps := [(131, r4prod_sp), (132, r4less_sp)], anns := [], trys := [] }
def r6cmp_ivs : List (Option (Int × Int)) := [some ((-9223372036854775808), 9223372036854775807), some ((-9223372036854775808), 9223372036854775807), some ((-9223372036854775808), 9223372036854775807), some ((-9223372036854775808), 9223372036854775807)]
set_option maxRecDepth 100000 in
theorem r6cmp_walk : runFn r6cmp_cx 3000 68 Try.f68 r6cmp_sp.args r6cmp_ivs = r6cmp_tree := by kernel_rfl
noncomputable def r6cmp_M : Nat → SpecSem
  | 131 => r4prod_sem
  | 132 => r4less_sem
  | _ => noSem
theorem r6cmp_M131 : r6cmp_M 131 = r4prod_sem := rfl
theorem r6cmp_M132 : r6cmp_M 132 = r4less_sem := rfl
theorem r6cmp_cxok : CxOK Try.prog r6cmp_cx r6cmp_M := ⟨tysOK, fnsOK, spCons r4prod_ok <| spCons r4less_ok <| fun _ _ h => spNil h, mixedOK, fun _ _ h => trNil h⟩

def r6cmp_sem : SpecSem := { pre := fun cs => match cs with | [.i a, .i b, .i c, .i d] => IsI a ∧ IsI b ∧ IsI c ∧ IsI d ∧ 1 ≤ b ∧ 1 ≤ d | _ => False, out := fun cs => match cs with | [.i a, .i b, .i c, .i d] => [.i (cmpZ (a * d) (c * b))] | _ => [] }
theorem sv_prod2 {a b : Int} : sv (decide (a * b < 0)) (absZ a * absZ b) = a * b := sgn_mul
theorem sv_nz {a b : Int} (h : decide (a * b < 0) = true) : absZ a * absZ b ≠ 0 := by
  have h1 := of_decide_eq_true h
  intro h2
  have := abs_mul_zero.1 h2
  rcases this with rfl | rfl <;> simp at h1
theorem r6cmp_ok : SpecOK Try.prog 68 r6cmp_sp r6cmp_sem := by
  refine spec_of_tree r6cmp_cxok Try.func68 (by kernel_rfl) (by kernel_rfl) r6cmp_walk rfl ?_
  intro cs hpre
  match cs, hpre with
  | [.i a, .i b, .i c, .i d], ⟨h1, h2, h3, h4, hb, hd⟩ =>
    have p1 := abs_mul_rng h1 h4
    have p2 := abs_mul_rng h3 h2
    have g1 : IsI a := h1
    have g2 : IsI b := h2
    have g3 : IsI c := h3
    have g4 : IsI d := h4
    unfold IsI at h1 h2 h3 h4
    refine ⟨rfl, IvsB.ok (by simp only [r6cmp_ivs, IvsB, Cv.int, and_true]; omega), ?_, ?_⟩
    · simp only [r6cmp_sem, r6cmp_sp, cmpZ, Fits, and_true]; (repeat' split) <;> omega
    · simp only [r6cmp_sem, r4prod_sem, r4less_sem, r6cmp_sp, IsU, r6cmp_tree, r6cmp_M131, r4prod_sem, r6cmp_M132, r4less_sem, Tree.den, List.getElem?_cons_zero, List.getElem?_cons_succ, IE.den, BE.den, At.den, CA.den, Env.get, Cv.int, Cv.bool, List.cons_append, List.nil_append, List.map_cons, List.map_nil, bindRes, bindEq, Fits, SV.den, denL, place, placeL, eq_t, eq_f, lt_t, lt_f, le_t, le_f, beq_iff_eq, beq_eq_false_iff_ne, ne_eq, reduceCtorEq, b_dec, decide_eq_true_eq, decide_eq_false_iff_not, Bool.not_eq_false', Bool.or_eq_true, Bool.or_eq_false_iff, Bool.and_eq_false_iff, true_iff, false_iff, Bool.false_eq_true, Bool.not_eq_true', Bool.and_eq_true, Bool.not_true, Bool.not_false, List.cons.injEq, Cv.i.injEq, Cv.b.injEq, and_true, true_and, agg_inj, tup_inj, Value.int.injEq, Value.bool.injEq]
      have s1 := sv_prod2 (a := a) (b := d)
      have s2 := sv_prod2 (a := c) (b := b)
      have n1 := sv_nz (a := a) (b := d)
      have n2 := sv_nz (a := c) (b := b)
      simp only [decide_eq_true_eq] at n1 n2
      refine ⟨⟨g1, g4⟩, ?_⟩
      intro x1 hx1 _ _ x0 hx0 _ _
      refine ⟨⟨g3, g2⟩, ?_⟩
      intro y1 hy1 _ _ y0 hy0 _ _
      have eX := val_split _ ⟨p1.1, by omega⟩ x1 x0 hx1 hx0
      have eY := val_split _ ⟨p2.1, by omega⟩ y1 y0 hy1 hy0
      rw [eX, eY, s1, s2]
      unfold cmpZ
      clear s1 s2 hx1 hx0 hy1 hy0
      generalize a * d = P at *
      generalize c * b = Q at *
      (repeat' (first | intro _ | refine And.intro ?_ ?_ | exact trivial)) <;> omega
def r6add_sp : SpecSh := { args := [(.agg [(.int .i64 (.z 0)), (.int .i64 (.z 0))]), (.agg [(.int .i64 (.z 0)), (.int .i64 (.z 0))])], res := (.tup [(.agg [(.int .i64 (.z 0)), (.int .i64 (.z 0))]), (.int .i64 (.z 0))]), sh := [.i (some ((-9223372036854775808), 9223372036854775807)), .i (some ((-9223372036854775808), 9223372036854775807)), .i (some ((-9223372036854775808), 9223372036854775807))] }
set_option maxRecDepth 100000 in
def r6add_tree : Tree :=
.call 131 [.b, .i (some (0, 18446744073709551615)), .i (some (0, 18446744073709551615))] [.i (.v 0), .i (.v 3)] <|
.call 131 [.b, .i (some (0, 18446744073709551615)), .i (some (0, 18446744073709551615))] [.i (.v 2), .i (.v 1)] <|
.call 130 [.b, .i (some (0, 18446744073709551615)), .i (some (0, 18446744073709551615))] [.b (.v 4), .i (.v 5), .i (.v 6), .b (.v 7), .i (.v 8), .i (.v 9)] <|
.call 131 [.b, .i (some (0, 18446744073709551615)), .i (some (0, 18446744073709551615))] [.i (.v 1), .i (.v 3)] <|
.call 107 [.i (some ((-9223372036854775808), 9223372036854775807)), .i (some ((-9223372036854775808), 9223372036854775807)), .i (some ((-9223372036854775808), 9223372036854775807))] [.b (.v 10), .i (.v 11), .i (.v 12), .i (.v 14), .i (.v 15)] <|
.ret (.tup [(.agg [(.int .i64 (.v 16)), (.int .i64 (.v 17))]), (.int .i64 (.v 18))])
noncomputable def r6add_cx : Ctx := { tys := tys, fns := fns, sps := [(131, r4prod_sp), (130, r4plus_sp), (107, r6low_sp)], anns := [], trys := [] }
def r6add_ivs : List (Option (Int × Int)) := [some ((-9223372036854775808), 9223372036854775807), some ((-9223372036854775808), 9223372036854775807), some ((-9223372036854775808), 9223372036854775807), some ((-9223372036854775808), 9223372036854775807)]
set_option maxRecDepth 100000 in
theorem r6add_walk : runFn r6add_cx 3000 66 Try.f66 r6add_sp.args r6add_ivs = r6add_tree := by kernel_rfl
noncomputable def r6add_M : Nat → SpecSem
  | 131 => r4prod_sem
  | 130 => r4plus_sem
  | 107 => r6low_sem
  | _ => noSem
theorem r6add_M131 : r6add_M 131 = r4prod_sem := rfl
theorem r6add_M130 : r6add_M 130 = r4plus_sem := rfl
theorem r6add_M107 : r6add_M 107 = r6low_sem := rfl
theorem r6add_cxok : CxOK Try.prog r6add_cx r6add_M := ⟨tysOK, fnsOK, spCons r4prod_ok <| spCons r4plus_ok <| spCons r6low_ok <| fun _ _ h => spNil h, mixedOK, fun _ _ h => trNil h⟩

def r6add_sem : SpecSem := { pre := r6cmp_sem.pre, out := fun cs => match cs with | [.i a, .i b, .i c, .i d] => rt (a * d + c * b) (b * d) | _ => [] }
theorem r6add_ok : SpecOK Try.prog 66 r6add_sp r6add_sem := by
  refine spec_of_tree r6add_cxok Try.func66 (by kernel_rfl) (by kernel_rfl) r6add_walk rfl ?_
  intro cs hpre
  match cs, hpre with
  | [.i a, .i b, .i c, .i d], ⟨h1, h2, h3, h4, hb1, hd1⟩ =>
    have p1 := abs_mul_rng h1 h4
    have p2 := abs_mul_rng h3 h2
    have p3 := abs_mul_rng h2 h4
    have g1 : IsI a := h1
    have g2 : IsI b := h2
    have g3 : IsI c := h3
    have g4 : IsI d := h4
    unfold IsI at h1 h2 h3 h4
    refine ⟨rfl, IvsB.ok (by simp only [r6add_ivs, IvsB, Cv.int, and_true]; omega), ?_, ?_⟩
    · simp only [r6add_sem, r6add_sp, rt, Fits, and_true]; have := rt_fits (a * d + c * b) (b * d); omega
    · simp only [r6add_sem, r4prod_sem, r4plus_sem, qplus_sem, r6low_sem, qlow_sem, rt, r6add_sp, IsU, r6add_tree, r6add_M131, r4prod_sem, r6add_M130, r4plus_sem, r6add_M107, r6low_sem, Tree.den, List.getElem?_cons_zero, List.getElem?_cons_succ, IE.den, BE.den, At.den, CA.den, Env.get, Cv.int, Cv.bool, List.cons_append, List.nil_append, List.map_cons, List.map_nil, bindRes, bindEq, Fits, SV.den, denL, place, placeL, eq_t, eq_f, lt_t, lt_f, le_t, le_f, beq_iff_eq, beq_eq_false_iff_ne, ne_eq, reduceCtorEq, b_dec, decide_eq_true_eq, decide_eq_false_iff_not, Bool.not_eq_false', Bool.or_eq_true, Bool.or_eq_false_iff, Bool.and_eq_false_iff, true_iff, false_iff, Bool.false_eq_true, Bool.not_eq_true', Bool.and_eq_true, Bool.not_true, Bool.not_false, List.cons.injEq, Cv.i.injEq, Cv.b.injEq, and_true, true_and, agg_inj, tup_inj, Value.int.injEq, Value.bool.injEq]
      have s1 := sv_prod2 (a := a) (b := d)
      have s2 := sv_prod2 (a := c) (b := b)
      have eb : absZ b = b := by unfold absZ; rw [if_neg (by omega)]
      have ed : absZ d = d := by unfold absZ; rw [if_neg (by omega)]
      have hbd : 1 ≤ b * d := Int.mul_le_mul hb1 hd1 (by omega) (by omega)
      have ss := svSum_rng (decide (a * d < 0)) (decide (c * b < 0)) p1.1 p2.1
      have sg := sv_sum2 (b := decide (a * d < 0)) (c := decide (c * b < 0)) (m := absZ a * absZ d) (n := absZ c * absZ b)
      rw [s1, s2] at sg
      rw [eb, ed] at p3
      refine ⟨⟨g1, g4⟩, ?_⟩
      intro x1 hx1 _ _ x0 hx0 _ _
      refine ⟨⟨g3, g2⟩, ?_⟩
      intro y1 hy1 _ _ y0 hy0 _ _
      have eX := val_split _ ⟨p1.1, by omega⟩ x1 x0 hx1 hx0
      have eY := val_split _ ⟨p2.1, by omega⟩ y1 y0 hy1 hy0
      rw [eX, eY]
      refine ⟨by omega, ?_⟩
      intro z1 hz1 _ _ z0 hz0 _ _
      refine ⟨⟨g2, g4⟩, ?_⟩
      intro w1 hw1 _ _ w0 hw0 _ _
      rw [eb, ed] at hw1 hw0
      have eZ := val_split _ ⟨ss.1, by omega⟩ z1 z0 hz1 hz0
      have eW := val_split _ ⟨by omega, by omega⟩ w1 w0 hw1 hw0
      rw [eW, eZ, sg]
      clear hx1 hx0 hy1 hy0 hz1 hz0 hw1 hw0 eX eY eZ eW s1 s2
      (repeat' (first | intro _ | refine And.intro ?_ ?_ | exact trivial)) <;> omega
def r6mul_sp : SpecSh := { args := [(.agg [(.int .i64 (.z 0)), (.int .i64 (.z 0))]), (.agg [(.int .i64 (.z 0)), (.int .i64 (.z 0))])], res := (.tup [(.agg [(.int .i64 (.z 0)), (.int .i64 (.z 0))]), (.int .i64 (.z 0))]), sh := [.i (some ((-9223372036854775808), 9223372036854775807)), .i (some ((-9223372036854775808), 9223372036854775807)), .i (some ((-9223372036854775808), 9223372036854775807))] }
set_option maxRecDepth 100000 in
def r6mul_tree : Tree :=
.call 131 [.b, .i (some (0, 18446744073709551615)), .i (some (0, 18446744073709551615))] [.i (.v 0), .i (.v 2)] <|
.call 131 [.b, .i (some (0, 18446744073709551615)), .i (some (0, 18446744073709551615))] [.i (.v 1), .i (.v 3)] <|
.call 107 [.i (some ((-9223372036854775808), 9223372036854775807)), .i (some ((-9223372036854775808), 9223372036854775807)), .i (some ((-9223372036854775808), 9223372036854775807))] [.b (.v 4), .i (.v 5), .i (.v 6), .i (.v 8), .i (.v 9)] <|
.ret (.tup [(.agg [(.int .i64 (.v 10)), (.int .i64 (.v 11))]), (.int .i64 (.v 12))])
noncomputable def r6mul_cx : Ctx := { tys := tys, fns := fns, sps := [(131, r4prod_sp), (107, r6low_sp)], anns := [], trys := [] }
def r6mul_ivs : List (Option (Int × Int)) := [some ((-9223372036854775808), 9223372036854775807), some ((-9223372036854775808), 9223372036854775807), some ((-9223372036854775808), 9223372036854775807), some ((-9223372036854775808), 9223372036854775807)]
set_option maxRecDepth 100000 in
theorem r6mul_walk : runFn r6mul_cx 3000 67 Try.f67 r6mul_sp.args r6mul_ivs = r6mul_tree := by kernel_rfl
noncomputable def r6mul_M : Nat → SpecSem
  | 131 => r4prod_sem
  | 107 => r6low_sem
  | _ => noSem
theorem r6mul_M131 : r6mul_M 131 = r4prod_sem := rfl
theorem r6mul_M107 : r6mul_M 107 = r6low_sem := rfl
theorem r6mul_cxok : CxOK Try.prog r6mul_cx r6mul_M := ⟨tysOK, fnsOK, spCons r4prod_ok <| spCons r6low_ok <| fun _ _ h => spNil h, mixedOK, fun _ _ h => trNil h⟩

def r6mul_sem : SpecSem := { pre := r6cmp_sem.pre, out := fun cs => match cs with | [.i a, .i b, .i c, .i d] => rt (a * c) (b * d) | _ => [] }
theorem r6mul_ok : SpecOK Try.prog 67 r6mul_sp r6mul_sem := by
  refine spec_of_tree r6mul_cxok Try.func67 (by kernel_rfl) (by kernel_rfl) r6mul_walk rfl ?_
  intro cs hpre
  match cs, hpre with
  | [.i a, .i b, .i c, .i d], ⟨h1, h2, h3, h4, hb1, hd1⟩ =>
    have p1 := abs_mul_rng h1 h3
    have p3 := abs_mul_rng h2 h4
    have g1 : IsI a := h1
    have g2 : IsI b := h2
    have g3 : IsI c := h3
    have g4 : IsI d := h4
    unfold IsI at h1 h2 h3 h4
    refine ⟨rfl, IvsB.ok (by simp only [r6mul_ivs, IvsB, Cv.int, and_true]; omega), ?_, ?_⟩
    · simp only [r6mul_sem, r6mul_sp, rt, Fits, and_true]; have := rt_fits (a * c) (b * d); omega
    · simp only [r6mul_sem, r4prod_sem, r6low_sem, qlow_sem, rt, r6mul_sp, IsU, r6mul_tree, r6mul_M131, r4prod_sem, r6mul_M107, r6low_sem, Tree.den, List.getElem?_cons_zero, List.getElem?_cons_succ, IE.den, BE.den, At.den, CA.den, Env.get, Cv.int, Cv.bool, List.cons_append, List.nil_append, List.map_cons, List.map_nil, bindRes, bindEq, Fits, SV.den, denL, place, placeL, eq_t, eq_f, lt_t, lt_f, le_t, le_f, beq_iff_eq, beq_eq_false_iff_ne, ne_eq, reduceCtorEq, b_dec, decide_eq_true_eq, decide_eq_false_iff_not, Bool.not_eq_false', Bool.or_eq_true, Bool.or_eq_false_iff, Bool.and_eq_false_iff, true_iff, false_iff, Bool.false_eq_true, Bool.not_eq_true', Bool.and_eq_true, Bool.not_true, Bool.not_false, List.cons.injEq, Cv.i.injEq, Cv.b.injEq, and_true, true_and, agg_inj, tup_inj, Value.int.injEq, Value.bool.injEq]
      have s1 := sv_prod2 (a := a) (b := c)
      have eb : absZ b = b := by unfold absZ; rw [if_neg (by omega)]
      have ed : absZ d = d := by unfold absZ; rw [if_neg (by omega)]
      have hbd : 1 ≤ b * d := Int.mul_le_mul hb1 hd1 (by omega) (by omega)
      rw [eb, ed] at p3
      refine ⟨⟨g1, g3⟩, ?_⟩
      intro x1 hx1 _ _ x0 hx0 _ _
      have eX := val_split _ ⟨p1.1, by omega⟩ x1 x0 hx1 hx0
      rw [eX]
      refine ⟨⟨g2, g4⟩, ?_⟩
      intro w1 hw1 _ _ w0 hw0 _ _
      rw [eb, ed] at hw1 hw0
      have eW := val_split _ ⟨by omega, by omega⟩ w1 w0 hw1 hw0
      rw [eW, s1]
      clear hx1 hx0 hw1 hw0 eX eW s1
      (repeat' (first | intro _ | refine And.intro ?_ ?_ | exact trivial)) <;> omega
def r6enc_sp : SpecSh := { args := [(.agg [(.int .i64 (.z 0)), (.int .i64 (.z 0))]), (.int .i64 (.z 0))], res := (.tup [(.agg [(.int .i64 (.z 0)), (.int .i64 (.z 0))]), (.int .i64 (.z 0))]), sh := [.i (some ((-9223372036854775808), 9223372036854775807)), .i (some ((-9223372036854775808), 9223372036854775807)), .i (some ((-9223372036854775808), 9223372036854775807))] }
set_option maxRecDepth 100000 in
def r6enc_tree : Tree :=
.call 123 [.i (some ((-9223372036854775808), 9223372036854775807)), .i (some ((-9223372036854775808), 9223372036854775807))] [.i (.v 0), .i (.v 2), .i (.v 1), .i (.z 0)] <|
.call 123 [.i (some ((-9223372036854775808), 9223372036854775807)), .i (some ((-9223372036854775808), 9223372036854775807))] [.i (.v 0), .i (.v 2), .i (.v 1), .i (.z 1)] <|
.ite (.not (.cmp .eq (.v 4) (.z 0))) (.ret (.tup [(.agg [(.int .i64 (.z 0)), (.int .i64 (.z 0))]), (.int .i64 (.z 5))])) <|
.ite (.not (.cmp .eq (.v 6) (.z 0))) (.ret (.tup [(.agg [(.int .i64 (.z 0)), (.int .i64 (.z 0))]), (.int .i64 (.z 5))])) <|
.ret (.tup [(.agg [(.int .i64 (.v 3)), (.int .i64 (.v 5))]), (.int .i64 (.z 0))])
noncomputable def r6enc_cx : Ctx := { tys := tys, fns := fns, sps := [(123, r4md_sp)], anns := [], trys := [] }
def r6enc_ivs : List (Option (Int × Int)) := [some ((-9223372036854775808), 9223372036854775807), some ((-9223372036854775808), 9223372036854775807), some ((-9223372036854775808), 9223372036854775807)]
set_option maxRecDepth 100000 in
theorem r6enc_walk : runFn r6enc_cx 3000 65 Try.f65 r6enc_sp.args r6enc_ivs = r6enc_tree := by kernel_rfl
noncomputable def r6enc_M : Nat → SpecSem
  | 123 => r4md_sem
  | _ => noSem
theorem r6enc_M123 : r6enc_M 123 = r4md_sem := rfl
theorem r6enc_cxok : CxOK Try.prog r6enc_cx r6enc_M := ⟨tysOK, fnsOK, spCons r4md_ok <| fun _ _ h => spNil h, mixedOK, fun _ _ h => trNil h⟩

def r6enc_sem : SpecSem := { pre := fun cs => match cs with | [.i a, .i b, .i s] => IsI a ∧ IsI b ∧ IsI s ∧ 1 ≤ b ∧ 1 ≤ s | _ => False, out := fun cs => match cs with | [.i a, .i b, .i s] => [.i (if IsI (a * s / b) ∧ IsI (-(-(a * s) / b)) then a * s / b else 0), .i (if IsI (a * s / b) ∧ IsI (-(-(a * s) / b)) then -(-(a * s) / b) else 0), .i (if IsI (a * s / b) ∧ IsI (-(-(a * s) / b)) then 0 else 5)] | _ => [] }
theorem r6enc_ok : SpecOK Try.prog 65 r6enc_sp r6enc_sem := by
  refine spec_of_tree r6enc_cxok Try.func65 (by kernel_rfl) (by kernel_rfl) r6enc_walk rfl ?_
  intro cs hpre
  match cs, hpre with
  | [.i a, .i b, .i s], ⟨h1, h2, h3, hb1, hs1⟩ =>
    have g1 : IsI a := h1
    have g2 : IsI b := h2
    have g3 : IsI s := h3
    unfold IsI at h1 h2 h3
    refine ⟨rfl, IvsB.ok (by simp only [r6enc_ivs, IvsB, Cv.int, and_true]; omega), ?_, ?_⟩
    · simp only [r6enc_sem, r6enc_sp, Fits, IsI, and_true]; (repeat' split) <;> omega
    · simp only [r6enc_sem, r4md_sem, tell, r6enc_sp, r6enc_tree, r6enc_M123, r4md_sem, Tree.den, List.getElem?_cons_zero, List.getElem?_cons_succ, IE.den, BE.den, At.den, CA.den, Env.get, Cv.int, Cv.bool, List.cons_append, List.nil_append, List.map_cons, List.map_nil, bindRes, bindEq, Fits, SV.den, denL, place, placeL, eq_t, eq_f, lt_t, lt_f, le_t, le_f, beq_iff_eq, beq_eq_false_iff_ne, ne_eq, reduceCtorEq, b_dec, decide_eq_true_eq, decide_eq_false_iff_not, Bool.not_eq_false', Bool.or_eq_true, Bool.or_eq_false_iff, Bool.and_eq_false_iff, true_iff, false_iff, Bool.false_eq_true, Bool.not_eq_true', Bool.and_eq_true, Bool.not_true, Bool.not_false, List.cons.injEq, Cv.i.injEq, Cv.b.injEq, and_true, true_and, agg_inj, tup_inj, Value.int.injEq, Value.bool.injEq]
      have e1 := mdZ_down (a := a) (b := s) (c := b) (by omega)
      have e2 := mdZ_up (a := a) (b := s) (c := b) (by omega)
      rw [e1, e2]
      generalize a * s / b = lo at *
      generalize -(-(a * s) / b) = hi at *
      by_cases i1 : IsI lo <;> by_cases i2 : IsI hi <;> simp only [i1, i2, ne_eq, if_true, if_false, true_and, and_true, false_and, and_false, true_or, or_true, false_or, or_false, true_iff, iff_true, false_iff, iff_false, not_true_eq_false, not_false_eq_true, true_implies, false_implies, implies_true, forall_const, decide_true, decide_false, reduceCtorEq]
      all_goals simp only [IsI] at *
      all_goals (repeat' (first | intro _ | refine And.intro ?_ ?_ | exact trivial)) <;> omega
end Go.Proofs.Ytlhmhcjpdpakkaa.X
