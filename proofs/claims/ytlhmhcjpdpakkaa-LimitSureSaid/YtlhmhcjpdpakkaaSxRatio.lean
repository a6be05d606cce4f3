/-
  The contracts of package ratio, for every input in range.
-/
import Derived.Test.YtlhmhcjpdpakkaaSxMulDiv
import Derived.Test.YtlhmhcjpdpakkaaSxGcdNum
namespace Go.Proofs.Ytlhmhcjpdpakkaa.X
open Go Go.SX Go.RowKit
set_option linter.unusedVariables false
set_option linter.unusedSimpArgs false







theorem val0 (x : Int) : val 0 x = x := by unfold val; omega
theorem ceq_and (a b c d : Int) : (Cmp.eq.den a b && Cmp.eq.den c d) = decide (a = b ∧ c = d) := by
  simp [Cmp.den]
theorem not_dec {p : Prop} [Decidable p] : (!decide p) = decide (¬p) := by simp
/-- a number, of its sign and its size -/
def sv (b : Bool) (m : Int) : Int := if b = true then -m else m
/-- a ratio in lowest terms -/
def rtN (N D : Int) : Int := N / gcdZ (absZ N) D
def rtD (N D : Int) : Int := D / gcdZ (absZ N) D
def rtOK (N D : Int) : Prop := IsI (rtN N D) ∧ IsI (rtD N D)
instance decRt (N D : Int) : Decidable (rtOK N D) := by unfold rtOK; exact inferInstance
def rt (N D : Int) : List Cv := [.i (if rtOK N D then rtN N D else 0), .i (if rtOK N D then rtD N D else 0), .i (if rtOK N D then 0 else 5)]
theorem rt_fits (N D : Int) : (-9223372036854775808 ≤ (if rtOK N D then rtN N D else 0) ∧ (if rtOK N D then rtN N D else 0) ≤ 9223372036854775807) ∧ (-9223372036854775808 ≤ (if rtOK N D then rtD N D else 0) ∧ (if rtOK N D then rtD N D else 0) ≤ 9223372036854775807) ∧ (-9223372036854775808 ≤ (if rtOK N D then 0 else 5 : Int) ∧ (if rtOK N D then 0 else 5 : Int) ≤ 9223372036854775807) := by
  by_cases h : rtOK N D
  · simp only [if_pos h]; exact ⟨h.1, h.2, by omega⟩
  · simp only [if_neg h]; omega
def rtG (c : Prop) [Decidable c] (why : Int) (N D : Int) : List Cv := [.i (if c ∧ rtOK N D then rtN N D else 0), .i (if c ∧ rtOK N D then rtD N D else 0), .i (if c then (if rtOK N D then 0 else 5) else why)]
theorem rtG_fits (c : Prop) [Decidable c] {why : Int} (hw : 0 ≤ why ∧ why ≤ 15) (N D : Int) : (-9223372036854775808 ≤ (if c ∧ rtOK N D then rtN N D else 0) ∧ (if c ∧ rtOK N D then rtN N D else 0) ≤ 9223372036854775807) ∧ (-9223372036854775808 ≤ (if c ∧ rtOK N D then rtD N D else 0) ∧ (if c ∧ rtOK N D then rtD N D else 0) ≤ 9223372036854775807) ∧ (-9223372036854775808 ≤ (if c then (if rtOK N D then 0 else 5) else why : Int) ∧ (if c then (if rtOK N D then 0 else 5) else why : Int) ≤ 9223372036854775807) := by
  by_cases hc : c
  · by_cases h : rtOK N D
    · simp only [hc, h, and_true, if_true]; exact ⟨h.1, h.2, by omega⟩
    · simp only [hc, h, and_false, if_true, if_false]; omega
  · simp only [hc, false_and, if_false]; omega
theorem sv_abs {b : Bool} {m : Int} (h : 0 ≤ m) : absZ (sv b m) = m := by
  unfold absZ sv; cases b
  · simp only [Bool.false_eq_true, if_false]; split <;> omega
  · simp only [if_true]; split <;> omega
theorem rt_low {b : Bool} {m D : Int} (hm : 0 ≤ m) (hD : 0 < D) : rtN (sv b m) D = (if b = true then -(lowX m D) else lowX m D) ∧ rtD (sv b m) D = lowY m D := by
  unfold rtN rtD
  rw [sv_abs hm]
  unfold lowX lowY
  have h0 : ¬ D = 0 := by omega
  simp only [h0, if_false]
  refine ⟨?_, trivial⟩
  unfold sv
  cases b
  · rfl
  · simp only [if_true]
    exact Int.neg_ediv_of_dvd (Int.dvd_of_emod_eq_zero (gcdZ_dvd hm (Int.le_of_lt hD)).1)
theorem lt_beq (a b c d : Int) : (Cmp.lt.den a b == Cmp.lt.den c d) = decide (a < b ↔ c < d) := by
  simp only [Cmp.den, beq_dec]
def qsize_sp : SpecSh := { args := [(.int .i64 (.z 0))], res := (.int .u64 (.z 0)), sh := [.i (some (0, 18446744073709551615))] }
set_option maxRecDepth 100000 in
def qsize_tree : Tree :=
.ite (.cmp .lt (.v 0) (.z 0)) (.lett (.wrap .u64 (.v 0)) <|
.lett (.subw .u64 (.z 0) (.v 1)) <|
.ret (.int .u64 (.v 2))) <|
.ret (.int .u64 (.v 0))
noncomputable def qsize_cx : Ctx := { tys := tys, fns := fns, sps := [], anns := [], trys := [] }
def qsize_ivs : List (Option (Int × Int)) := [some ((-9223372036854775808), 9223372036854775807)]
set_option maxRecDepth 100000 in
theorem qsize_walk : runFn qsize_cx 3000 101 Try.f101 qsize_sp.args qsize_ivs = qsize_tree := by kernel_rfl
noncomputable def qsize_M : Nat → SpecSem
  | _ => noSem
theorem qsize_cxok : CxOK Try.prog qsize_cx qsize_M := ⟨tysOK, fnsOK, fun _ _ h => spNil h, mixedOK, fun _ _ h => trNil h⟩

def qsize_sem : SpecSem := fsize_sem
theorem qsize_ok : SpecOK Try.prog 101 qsize_sp qsize_sem := by
  refine spec_of_tree qsize_cxok Try.func101 (by kernel_rfl) (by kernel_rfl) qsize_walk rfl ?_
  intro cs hpre
  match cs, hpre with
  | [.i a], ⟨h1, h2⟩ =>
    refine ⟨rfl, IvsB.ok (by simp only [qsize_ivs, IvsB, Cv.int, and_true]; omega), ?_, ?_⟩
    · simp only [qsize_sem, fsize_sem, qsize_sp, Fits, and_true, absZ]; split <;> omega
    · simp only [qsize_sem, fsize_sem, qsize_sp, IsU, absZ, wu64_mod, qsize_tree, Tree.den, LE.den, Cv.list, placeA, List.getElem?_cons_zero, List.getElem?_cons_succ, IE.den, BE.den, At.den, CA.den, Env.get, Cv.int, Cv.bool, List.cons_append, List.nil_append, List.map_cons, List.map_nil, bindRes, bindEq, Fits, SV.den, denL, place, placeL, eq_t, eq_f, lt_t, lt_f, le_t, le_f, beq_iff_eq, beq_eq_false_iff_ne, ne_eq, reduceCtorEq, b_dec, decide_eq_true_eq, decide_eq_false_iff_not, Bool.not_eq_false', Bool.or_eq_true, Bool.or_eq_false_iff, Bool.and_eq_false_iff, true_iff, false_iff, Bool.false_eq_true, Bool.not_eq_true', Bool.and_eq_true, Bool.not_true, Bool.not_false, List.cons.injEq, Cv.i.injEq, Cv.b.injEq, and_true, true_and, agg_inj, tup_inj, Value.int.injEq, Value.bool.injEq]
      (repeat' (first | intro _ | refine And.intro ?_ ?_ | exact trivial)) <;> omega
theorem abs_mul_rng {a b : Int} (ha : IsI a) (hb : IsI b) : 0 ≤ absZ a * absZ b ∧ absZ a * absZ b ≤ 85070591730234615865843651857942052864 := by
  obtain ⟨h1, h2⟩ := absZ_le ha
  obtain ⟨h3, h4⟩ := absZ_le hb
  exact ⟨Int.mul_nonneg h1 h3, Int.mul_le_mul h2 h4 h3 (by omega)⟩
def qprod_sp : SpecSh := { args := [(.int .i64 (.z 0)), (.int .i64 (.z 0))], res := (.agg [(.bool .f), (.int .u64 (.z 0)), (.int .u64 (.z 0))]), sh := [.b, .i (some (0, 18446744073709551615)), .i (some (0, 18446744073709551615))] }
set_option maxRecDepth 100000 in
def qprod_tree : Tree :=
.call 101 [.i (some (0, 18446744073709551615))] [.i (.v 0)] <|
.call 101 [.i (some (0, 18446744073709551615))] [.i (.v 1)] <|
.call 82 [.i (some (0, 18446744073709551615)), .i (some (0, 18446744073709551615))] [.i (.v 2), .i (.v 3)] <|
.ret (.agg [(.bool (.not (.eqv (.cmp .lt (.v 0) (.z 0)) (.cmp .lt (.v 1) (.z 0))))), (.int .u64 (.v 4)), (.int .u64 (.v 5))])
noncomputable def qprod_cx : Ctx := { tys := tys, fns := fns, sps := [(82, mul_sp), (101, qsize_sp)], anns := [], trys := [] }
def qprod_ivs : List (Option (Int × Int)) := [some ((-9223372036854775808), 9223372036854775807), some ((-9223372036854775808), 9223372036854775807)]
set_option maxRecDepth 100000 in
theorem qprod_walk : runFn qprod_cx 3000 108 Try.f108 qprod_sp.args qprod_ivs = qprod_tree := by kernel_rfl
noncomputable def qprod_M : Nat → SpecSem
  | 82 => mul_sem
  | 101 => qsize_sem
  | _ => noSem
theorem qprod_M82 : qprod_M 82 = mul_sem := rfl
theorem qprod_M101 : qprod_M 101 = qsize_sem := rfl
theorem qprod_cxok : CxOK Try.prog qprod_cx qprod_M := ⟨tysOK, fnsOK, spCons mul_ok <| spCons qsize_ok <| fun _ _ h => spNil h, mixedOK, fun _ _ h => trNil h⟩

def qprod_sem : SpecSem := { pre := fun cs => match cs with | [.i a, .i b] => IsI a ∧ IsI b | _ => False, out := fun cs => match cs with | [.i a, .i b] => [.b (decide (¬(a < 0 ↔ b < 0))), .i (absZ a * absZ b / 18446744073709551616), .i (absZ a * absZ b % 18446744073709551616)] | _ => [] }
theorem qprod_ok : SpecOK Try.prog 108 qprod_sp qprod_sem := by
  refine spec_of_tree qprod_cxok Try.func108 (by kernel_rfl) (by kernel_rfl) qprod_walk rfl ?_
  intro cs hpre
  match cs, hpre with
  | [.i a, .i b], ⟨⟨h1, h2⟩, ⟨h3, h4⟩⟩ =>
    have hp := abs_mul_rng (a := a) (b := b) ⟨h1, h2⟩ ⟨h3, h4⟩
    obtain ⟨z1, z2⟩ := absZ_le (a := a) ⟨h1, h2⟩
    obtain ⟨z3, z4⟩ := absZ_le (a := b) ⟨h3, h4⟩
    refine ⟨rfl, IvsB.ok (by simp only [qprod_ivs, IvsB, Cv.int, and_true]; omega), ?_, ?_⟩
    · simp only [qprod_sem, qprod_sp, Fits, and_true]; omega
    · simp only [qprod_sem, qsize_sem, fsize_sem, qprod_sp, IsU, IsI, lt_beq, qprod_tree, qprod_M82, mul_sem, qprod_M101, qsize_sem, Tree.den, LE.den, Cv.list, placeA, List.getElem?_cons_zero, List.getElem?_cons_succ, IE.den, BE.den, At.den, CA.den, Env.get, Cv.int, Cv.bool, List.cons_append, List.nil_append, List.map_cons, List.map_nil, bindRes, bindEq, Fits, SV.den, denL, place, placeL, eq_t, eq_f, lt_t, lt_f, le_t, le_f, beq_iff_eq, beq_eq_false_iff_ne, ne_eq, reduceCtorEq, b_dec, decide_eq_true_eq, decide_eq_false_iff_not, Bool.not_eq_false', Bool.or_eq_true, Bool.or_eq_false_iff, Bool.and_eq_false_iff, true_iff, false_iff, Bool.false_eq_true, Bool.not_eq_true', Bool.and_eq_true, Bool.not_true, Bool.not_false, List.cons.injEq, Cv.i.injEq, Cv.b.injEq, and_true, true_and, agg_inj, tup_inj, Value.int.injEq, Value.bool.injEq]
      refine ⟨by omega, ?_⟩
      intro x hx _ _
      refine ⟨by omega, ?_⟩
      intro y hy _ _
      subst hx hy
      refine ⟨by omega, ?_⟩
      intro p1 hp1 _ _ p0 hp0 _ _
      (repeat' (first | intro _ | refine And.intro ?_ ?_ | exact trivial)) <;> omega
def qplus_sp : SpecSh := { args := [(.agg [(.bool .f), (.int .u64 (.z 0)), (.int .u64 (.z 0))]), (.agg [(.bool .f), (.int .u64 (.z 0)), (.int .u64 (.z 0))])], res := (.agg [(.bool .f), (.int .u64 (.z 0)), (.int .u64 (.z 0))]), sh := [.b, .i (some (0, 18446744073709551615)), .i (some (0, 18446744073709551615))] }
set_option maxRecDepth 100000 in
def qplus_tree : Tree :=
.ite (.eqv (.v 0) (.v 3)) (.call 116 [.i (some (0, 18446744073709551615)), .i (some (0, 18446744073709551615)), .b] [.i (.v 1), .i (.v 2), .i (.v 4), .i (.v 5)] <|
.ret (.agg [(.bool (.v 0)), (.int .u64 (.v 6)), (.int .u64 (.v 7))])) <|
.call 160 [.i (some (0, 18446744073709551615)), .i (some (0, 18446744073709551615)), .b] [.i (.v 1), .i (.v 2), .i (.v 4), .i (.v 5)] <|
.ite (.not (.v 8)) (.ret (.agg [(.bool (.v 0)), (.int .u64 (.v 6)), (.int .u64 (.v 7))])) <|
.call 160 [.i (some (0, 18446744073709551615)), .i (some (0, 18446744073709551615)), .b] [.i (.v 4), .i (.v 5), .i (.v 1), .i (.v 2)] <|
.ret (.agg [(.bool (.v 3)), (.int .u64 (.v 9)), (.int .u64 (.v 10))])
noncomputable def qplus_cx : Ctx := { tys := tys, fns := fns, sps := [(116, wadd_sp), (160, wsub_sp)], anns := [], trys := [] }
def qplus_ivs : List (Option (Int × Int)) := [none, some (0, 18446744073709551615), some (0, 18446744073709551615), none, some (0, 18446744073709551615), some (0, 18446744073709551615)]
set_option maxRecDepth 100000 in
theorem qplus_walk : runFn qplus_cx 3000 109 Try.f109 qplus_sp.args qplus_ivs = qplus_tree := by kernel_rfl
noncomputable def qplus_M : Nat → SpecSem
  | 116 => wadd_sem
  | 160 => wsub_sem
  | _ => noSem
theorem qplus_M116 : qplus_M 116 = wadd_sem := rfl
theorem qplus_M160 : qplus_M 160 = wsub_sem := rfl
theorem qplus_cxok : CxOK Try.prog qplus_cx qplus_M := ⟨tysOK, fnsOK, spCons wadd_ok <| spCons wsub_ok <| fun _ _ h => spNil h, mixedOK, fun _ _ h => trNil h⟩

def svSum (b c : Bool) (m n : Int) : Int := if b = c then m + n else if n ≤ m then m - n else n - m
def svSgn (b c : Bool) (m n : Int) : Bool := if b = c then b else if b = true then decide (n ≤ m) else decide (m < n)
theorem sv_sum {b c : Bool} {m n : Int} : sv (svSgn b c m n) (svSum b c m n) = sv b m + sv c n := by
  unfold sv svSgn svSum
  cases b <;> cases c <;> by_cases h : n ≤ m <;> simp [h] <;> omega
theorem svSum_rng (b c : Bool) {m n : Int} (hm : 0 ≤ m) (hn : 0 ≤ n) : 0 ≤ svSum b c m n ∧ svSum b c m n ≤ m + n := by
  unfold svSum; (repeat' split) <;> omega
def qplus_sem : SpecSem := { pre := fun cs => match cs with | [.b b, .i m1, .i m0, .b c, .i n1, .i n0] => IsU m1 ∧ IsU m0 ∧ IsU n1 ∧ IsU n0 ∧ val m1 m0 < 170141183460469231731687303715884105728 ∧ val n1 n0 < 170141183460469231731687303715884105728 | _ => False, out := fun cs => match cs with | [.b b, .i m1, .i m0, .b c, .i n1, .i n0] => [.b (svSgn b c (val m1 m0) (val n1 n0)), .i (svSum b c (val m1 m0) (val n1 n0) / 18446744073709551616), .i (svSum b c (val m1 m0) (val n1 n0) % 18446744073709551616)] | _ => [] }
theorem qplus_ok : SpecOK Try.prog 109 qplus_sp qplus_sem := by
  refine spec_of_tree qplus_cxok Try.func109 (by kernel_rfl) (by kernel_rfl) qplus_walk rfl ?_
  intro cs hpre
  match cs, hpre with
  | [.b b, .i m1, .i m0, .b c, .i n1, .i n0], ⟨⟨h1, h2⟩, ⟨h3, h4⟩, ⟨h5, h6⟩, ⟨h7, h8⟩, h9, h10⟩ =>
    have hm : 0 ≤ val m1 m0 := by unfold val; omega
    have hn : 0 ≤ val n1 n0 := by unfold val; omega
    refine ⟨rfl, IvsB.ok (by simp only [qplus_ivs, IvsB, Cv.int, and_true]; omega), ?_, ?_⟩
    · simp only [qplus_sem, qplus_sp, Fits, and_true, svSum]; (repeat' split) <;> omega
    · simp only [qplus_sem, qplus_sp, IsU, svSum, svSgn, qplus_tree, qplus_M116, wadd_sem, qplus_M160, wsub_sem, Tree.den, LE.den, Cv.list, placeA, List.getElem?_cons_zero, List.getElem?_cons_succ, IE.den, BE.den, At.den, CA.den, Env.get, Cv.int, Cv.bool, List.cons_append, List.nil_append, List.map_cons, List.map_nil, bindRes, bindEq, Fits, SV.den, denL, place, placeL, eq_t, eq_f, lt_t, lt_f, le_t, le_f, beq_iff_eq, beq_eq_false_iff_ne, ne_eq, reduceCtorEq, b_dec, decide_eq_true_eq, decide_eq_false_iff_not, Bool.not_eq_false', Bool.or_eq_true, Bool.or_eq_false_iff, Bool.and_eq_false_iff, true_iff, false_iff, Bool.false_eq_true, Bool.not_eq_true', Bool.and_eq_true, Bool.not_true, Bool.not_false, List.cons.injEq, Cv.i.injEq, Cv.b.injEq, and_true, true_and, agg_inj, tup_inj, Value.int.injEq, Value.bool.injEq]
      cases b <;> cases c <;> simp only [b_dec, if_true, if_false, true_and, and_true, false_and, and_false, true_or, or_true, false_or, or_false, true_iff, iff_true, false_iff, iff_false, not_true_eq_false, not_false_eq_true, true_implies, false_implies, implies_true, forall_const, decide_true, decide_false, reduceCtorEq]
      all_goals (generalize val m1 m0 = m at *; generalize val n1 n0 = n at *)
      all_goals (repeat' (first | intro _ | refine And.intro ?_ ?_ | exact trivial)) <;> omega
def qless_sp : SpecSh := { args := [(.agg [(.bool .f), (.int .u64 (.z 0)), (.int .u64 (.z 0))]), (.agg [(.bool .f), (.int .u64 (.z 0)), (.int .u64 (.z 0))])], res := (.bool .f), sh := [.b] }
set_option maxRecDepth 100000 in
def qless_tree : Tree :=
.ite (.v 0) (.ite (.v 3) (.ite (.not (.eqv (.not (.and (.cmp .eq (.v 1) (.z 0)) (.cmp .eq (.v 2) (.z 0)))) (.not (.and (.cmp .eq (.v 4) (.z 0)) (.cmp .eq (.v 5) (.z 0)))))) (.ret (.bool (.not (.and (.cmp .eq (.v 1) (.z 0)) (.cmp .eq (.v 2) (.z 0)))))) <|
.ite (.not (.and (.cmp .eq (.v 1) (.z 0)) (.cmp .eq (.v 2) (.z 0)))) (.call 83 [.b] [.i (.v 4), .i (.v 5), .i (.v 1), .i (.v 2)] <|
.ret (.bool (.v 6))) <|
.call 83 [.b] [.i (.v 1), .i (.v 2), .i (.v 4), .i (.v 5)] <|
.ret (.bool (.v 6))) <|
.ite (.not (.and (.cmp .eq (.v 1) (.z 0)) (.cmp .eq (.v 2) (.z 0)))) (.ret (.bool (.not (.and (.cmp .eq (.v 1) (.z 0)) (.cmp .eq (.v 2) (.z 0)))))) <|
.call 83 [.b] [.i (.v 1), .i (.v 2), .i (.v 4), .i (.v 5)] <|
.ret (.bool (.v 6))) <|
.ite (.v 3) (.ite (.not (.and (.cmp .eq (.v 4) (.z 0)) (.cmp .eq (.v 5) (.z 0)))) (.ret (.bool .f)) <|
.call 83 [.b] [.i (.v 1), .i (.v 2), .i (.v 4), .i (.v 5)] <|
.ret (.bool (.v 6))) <|
.call 83 [.b] [.i (.v 1), .i (.v 2), .i (.v 4), .i (.v 5)] <|
.ret (.bool (.v 6))
noncomputable def qless_cx : Ctx := { tys := tys, fns := fns, sps := [(83, less_sp)], anns := [], trys := [] }
def qless_ivs : List (Option (Int × Int)) := [none, some (0, 18446744073709551615), some (0, 18446744073709551615), none, some (0, 18446744073709551615), some (0, 18446744073709551615)]
set_option maxRecDepth 100000 in
theorem qless_walk : runFn qless_cx 3000 110 Try.f110 qless_sp.args qless_ivs = qless_tree := by kernel_rfl
noncomputable def qless_M : Nat → SpecSem
  | 83 => less_sem
  | _ => noSem
theorem qless_M83 : qless_M 83 = less_sem := rfl
theorem qless_cxok : CxOK Try.prog qless_cx qless_M := ⟨tysOK, fnsOK, spCons less_ok <| fun _ _ h => spNil h, mixedOK, fun _ _ h => trNil h⟩

def qless_sem : SpecSem := { pre := fun cs => match cs with | [.b b, .i m1, .i m0, .b c, .i n1, .i n0] => IsU m1 ∧ IsU m0 ∧ IsU n1 ∧ IsU n0 | _ => False, out := fun cs => match cs with | [.b b, .i m1, .i m0, .b c, .i n1, .i n0] => [.b (decide (sv b (val m1 m0) < sv c (val n1 n0)))] | _ => [] }
theorem qless_ok : SpecOK Try.prog 110 qless_sp qless_sem := by
  refine spec_of_tree qless_cxok Try.func110 (by kernel_rfl) (by kernel_rfl) qless_walk rfl ?_
  intro cs hpre
  match cs, hpre with
  | [.b b, .i m1, .i m0, .b c, .i n1, .i n0], ⟨⟨h1, h2⟩, ⟨h3, h4⟩, ⟨h5, h6⟩, ⟨h7, h8⟩⟩ =>
    refine ⟨rfl, IvsB.ok (by simp only [qless_ivs, IvsB, Cv.int, and_true]; omega), ?_, ?_⟩
    · simp only [qless_sem, qless_sp, Fits]
    · simp only [qless_sem, qless_sp, IsU, ceq_and, not_dec, decide_eq_decide, qless_tree, qless_M83, less_sem, Tree.den, LE.den, Cv.list, placeA, List.getElem?_cons_zero, List.getElem?_cons_succ, IE.den, BE.den, At.den, CA.den, Env.get, Cv.int, Cv.bool, List.cons_append, List.nil_append, List.map_cons, List.map_nil, bindRes, bindEq, Fits, SV.den, denL, place, placeL, eq_t, eq_f, lt_t, lt_f, le_t, le_f, beq_iff_eq, beq_eq_false_iff_ne, ne_eq, reduceCtorEq, b_dec, decide_eq_true_eq, decide_eq_false_iff_not, Bool.not_eq_false', Bool.or_eq_true, Bool.or_eq_false_iff, Bool.and_eq_false_iff, true_iff, false_iff, Bool.false_eq_true, Bool.not_eq_true', Bool.and_eq_true, Bool.not_true, Bool.not_false, List.cons.injEq, Cv.i.injEq, Cv.b.injEq, and_true, true_and, agg_inj, tup_inj, Value.int.injEq, Value.bool.injEq]
      have hm : 0 ≤ val m1 m0 := by unfold val; omega
      have hn : 0 ≤ val n1 n0 := by unfold val; omega
      have zm : (m1 = 0 ∧ m0 = 0) ↔ val m1 m0 = 0 := by unfold val; omega
      have zn : (n1 = 0 ∧ n0 = 0) ↔ val n1 n0 = 0 := by unfold val; omega
      cases b <;> cases c <;> simp only [sv, decide_eq_decide, if_true, if_false, true_and, and_true, false_and, and_false, true_or, or_true, false_or, or_false, true_iff, iff_true, false_iff, iff_false, not_true_eq_false, not_false_eq_true, true_implies, false_implies, implies_true, forall_const, decide_true, decide_false, reduceCtorEq]
      all_goals (repeat' (first | intro _ | refine And.intro ?_ ?_ | exact trivial)) <;> omega
def qlow_sp : SpecSh := { args := [(.agg [(.bool .f), (.int .u64 (.z 0)), (.int .u64 (.z 0))]), (.agg [(.int .u64 (.z 0)), (.int .u64 (.z 0))])], res := (.tup [(.agg [(.int .i64 (.z 0)), (.int .i64 (.z 0))]), (.int .i64 (.z 0))]), sh := [.i (some ((-9223372036854775808), 9223372036854775807)), .i (some ((-9223372036854775808), 9223372036854775807)), .i (some ((-9223372036854775808), 9223372036854775807))] }
set_option maxRecDepth 100000 in
def qlow_tree : Tree :=
.call 154 [.i (some (0, 18446744073709551615)), .i (some (0, 18446744073709551615)), .i (some (0, 18446744073709551615)), .i (some (0, 18446744073709551615)), .i (some ((-9223372036854775808), 9223372036854775807))] [.i (.v 1), .i (.v 2), .i (.v 3), .i (.v 4)] <|
.ite (.cmp .lt (.z 0) (.v 5)) (.ite (.cmp .lt (.z 0) (.v 7)) (.ret (.tup [(.agg [(.int .i64 (.z 0)), (.int .i64 (.z 0))]), (.int .i64 (.z 5))])) <|
.ite (.cmp .le (.v 8) (.z 9223372036854775807)) (.ret (.tup [(.agg [(.int .i64 (.z 0)), (.int .i64 (.z 0))]), (.int .i64 (.z 5))])) <|
.ret (.tup [(.agg [(.int .i64 (.z 0)), (.int .i64 (.z 0))]), (.int .i64 (.z 5))])) <|
.ite (.cmp .le (.v 6) (.z 9223372036854775807)) (.ite (.v 0) (.lett (.sub (.z 0) (.v 6)) <|
.ite (.cmp .lt (.z 0) (.v 7)) (.ret (.tup [(.agg [(.int .i64 (.z 0)), (.int .i64 (.z 0))]), (.int .i64 (.z 5))])) <|
.ite (.cmp .le (.v 8) (.z 9223372036854775807)) (.ret (.tup [(.agg [(.int .i64 (.v 10)), (.int .i64 (.v 8))]), (.int .i64 (.z 0))])) <|
.ret (.tup [(.agg [(.int .i64 (.z 0)), (.int .i64 (.z 0))]), (.int .i64 (.z 5))])) <|
.ite (.cmp .lt (.z 0) (.v 7)) (.ret (.tup [(.agg [(.int .i64 (.z 0)), (.int .i64 (.z 0))]), (.int .i64 (.z 5))])) <|
.ite (.cmp .le (.v 8) (.z 9223372036854775807)) (.ret (.tup [(.agg [(.int .i64 (.v 6)), (.int .i64 (.v 8))]), (.int .i64 (.z 0))])) <|
.ret (.tup [(.agg [(.int .i64 (.z 0)), (.int .i64 (.z 0))]), (.int .i64 (.z 5))])) <|
.ite (.v 0) (.ite (.cmp .lt (.z 0) (.v 7)) (.ite (.not (.cmp .eq (.v 6) (.z 9223372036854775808))) (.ret (.tup [(.agg [(.int .i64 (.z 0)), (.int .i64 (.z 0))]), (.int .i64 (.z 5))])) <|
.ret (.tup [(.agg [(.int .i64 (.z 0)), (.int .i64 (.z 0))]), (.int .i64 (.z 5))])) <|
.ite (.cmp .le (.v 8) (.z 9223372036854775807)) (.ite (.not (.cmp .eq (.v 6) (.z 9223372036854775808))) (.ret (.tup [(.agg [(.int .i64 (.z 0)), (.int .i64 (.z 0))]), (.int .i64 (.z 5))])) <|
.ret (.tup [(.agg [(.int .i64 (.z (-9223372036854775808))), (.int .i64 (.v 8))]), (.int .i64 (.z 0))])) <|
.ite (.not (.cmp .eq (.v 6) (.z 9223372036854775808))) (.ret (.tup [(.agg [(.int .i64 (.z 0)), (.int .i64 (.z 0))]), (.int .i64 (.z 5))])) <|
.ret (.tup [(.agg [(.int .i64 (.z 0)), (.int .i64 (.z 0))]), (.int .i64 (.z 5))])) <|
.ite (.cmp .lt (.z 0) (.v 7)) (.ret (.tup [(.agg [(.int .i64 (.z 0)), (.int .i64 (.z 0))]), (.int .i64 (.z 5))])) <|
.ite (.cmp .le (.v 8) (.z 9223372036854775807)) (.ret (.tup [(.agg [(.int .i64 (.z 0)), (.int .i64 (.z 0))]), (.int .i64 (.z 5))])) <|
.ret (.tup [(.agg [(.int .i64 (.z 0)), (.int .i64 (.z 0))]), (.int .i64 (.z 5))])
noncomputable def qlow_cx : Ctx := { tys := tys, fns := fns, sps := [(154, glow_sp)], anns := [], trys := [] }
def qlow_ivs : List (Option (Int × Int)) := [none, some (0, 18446744073709551615), some (0, 18446744073709551615), some (0, 18446744073709551615), some (0, 18446744073709551615)]
set_option maxRecDepth 100000 in
theorem qlow_walk : runFn qlow_cx 3000 100 Try.f100 qlow_sp.args qlow_ivs = qlow_tree := by kernel_rfl
noncomputable def qlow_M : Nat → SpecSem
  | 154 => glow_sem
  | _ => noSem
theorem qlow_M154 : qlow_M 154 = glow_sem := rfl
theorem qlow_cxok : CxOK Try.prog qlow_cx qlow_M := ⟨tysOK, fnsOK, spCons glow_ok <| fun _ _ h => spNil h, mixedOK, fun _ _ h => trNil h⟩

def qlow_sem : SpecSem := { pre := fun cs => match cs with | [.b b, .i m1, .i m0, .i d1, .i d0] => IsU m1 ∧ IsU m0 ∧ IsU d1 ∧ IsU d0 ∧ val d1 d0 ≠ 0 | _ => False, out := fun cs => match cs with | [.b b, .i m1, .i m0, .i d1, .i d0] => rt (sv b (val m1 m0)) (val d1 d0) | _ => [] }
theorem qlow_ok : SpecOK Try.prog 100 qlow_sp qlow_sem := by
  refine spec_of_tree qlow_cxok Try.func100 (by kernel_rfl) (by kernel_rfl) qlow_walk rfl ?_
  intro cs hpre
  match cs, hpre with
  | [.b b, .i m1, .i m0, .i d1, .i d0], ⟨⟨h1, h2⟩, ⟨h3, h4⟩, ⟨h5, h6⟩, ⟨h7, h8⟩, hz⟩ =>
    have hm : 0 ≤ val m1 m0 ∧ val m1 m0 < 340282366920938463463374607431768211456 := by unfold val; omega
    have hd : 0 ≤ val d1 d0 ∧ val d1 d0 < 340282366920938463463374607431768211456 := by unfold val; omega
    obtain ⟨l1, l2⟩ := low_rng hm hd
    obtain ⟨e1, e2⟩ := rt_low (b := b) hm.1 (show 0 < val d1 d0 by omega)
    refine ⟨rfl, IvsB.ok (by simp only [qlow_ivs, IvsB, Cv.int, and_true]; omega), ?_, ?_⟩
    · simp only [qlow_sem, qlow_sp, rt, Fits, and_true]; have := rt_fits (sv b (val m1 m0)) (val d1 d0); omega
    · have hok : rtOK (sv b (val m1 m0)) (val d1 d0) ↔ (IsI (if b = true then -(lowX (val m1 m0) (val d1 d0)) else lowX (val m1 m0) (val d1 d0)) ∧ IsI (lowY (val m1 m0) (val d1 d0))) := by
        unfold rtOK; rw [e1, e2]
      simp only [qlow_sem, qlow_sp, IsU, rt, e1, e2, qlow_tree, qlow_M154, glow_sem, Tree.den, LE.den, Cv.list, placeA, List.getElem?_cons_zero, List.getElem?_cons_succ, IE.den, BE.den, At.den, CA.den, Env.get, Cv.int, Cv.bool, List.cons_append, List.nil_append, List.map_cons, List.map_nil, bindRes, bindEq, Fits, SV.den, denL, place, placeL, eq_t, eq_f, lt_t, lt_f, le_t, le_f, beq_iff_eq, beq_eq_false_iff_ne, ne_eq, reduceCtorEq, b_dec, decide_eq_true_eq, decide_eq_false_iff_not, Bool.not_eq_false', Bool.or_eq_true, Bool.or_eq_false_iff, Bool.and_eq_false_iff, true_iff, false_iff, Bool.false_eq_true, Bool.not_eq_true', Bool.and_eq_true, Bool.not_true, Bool.not_false, List.cons.injEq, Cv.i.injEq, Cv.b.injEq, and_true, true_and, agg_inj, tup_inj, Value.int.injEq, Value.bool.injEq]
      clear e1 e2
      generalize lowX (val m1 m0) (val d1 d0) = X at *
      generalize lowY (val m1 m0) (val d1 d0) = Y at *
      try simp only [wi64, wu64_mod]
      by_cases h : rtOK (sv b (val m1 m0)) (val d1 d0) <;> simp only [h, true_iff, false_iff, if_true, if_false] at hok ⊢ <;> cases b <;> simp only [IsI, Bool.false_eq_true, if_true, if_false] at hok ⊢ <;> simp only [if_true, if_false, true_and, and_true, false_and, and_false, true_or, or_true, false_or, or_false, true_iff, iff_true, false_iff, iff_false, not_true_eq_false, not_false_eq_true, true_implies, false_implies, implies_true, forall_const, decide_true, decide_false, reduceCtorEq]
      all_goals (repeat' (first | intro _ | refine And.intro ?_ ?_ | exact trivial)) <;> omega
theorem gcd_one {u v : Int} (h : gcdZ u v = 1) : gcdZ u v = 1 := h
def rtR (n d : Int) : Prop := 1 ≤ d ∧ gcdZ (absZ n) d = 1
instance decRtR (n d : Int) : Decidable (rtR n d) := by unfold rtR; exact inferInstance
def qright_sp : SpecSh := { args := [(.agg [(.int .i64 (.z 0)), (.int .i64 (.z 0))])], res := (.bool .f), sh := [.b] }
set_option maxRecDepth 100000 in
def qright_tree : Tree :=
.ite (.cmp .le (.z 1) (.v 1)) (.call 101 [.i (some (0, 18446744073709551615))] [.i (.v 0)] <|
.call 101 [.i (some (0, 18446744073709551615))] [.i (.v 1)] <|
.call 102 [.i (some (0, 18446744073709551615)), .i (some (0, 18446744073709551615))] [.i (.z 0), .i (.v 2), .i (.z 0), .i (.v 3)] <|
.ret (.bool (.and (.cmp .eq (.v 4) (.z 0)) (.cmp .eq (.v 5) (.z 1))))) <|
.ret (.bool .f)
noncomputable def qright_cx : Ctx := { tys := tys, fns := fns, sps := [(102, ggcd_sp), (101, qsize_sp)], anns := [], trys := [] }
def qright_ivs : List (Option (Int × Int)) := [some ((-9223372036854775808), 9223372036854775807), some ((-9223372036854775808), 9223372036854775807)]
set_option maxRecDepth 100000 in
theorem qright_walk : runFn qright_cx 3000 39 Try.f39 qright_sp.args qright_ivs = qright_tree := by kernel_rfl
noncomputable def qright_M : Nat → SpecSem
  | 102 => ggcd_sem
  | 101 => qsize_sem
  | _ => noSem
theorem qright_M102 : qright_M 102 = ggcd_sem := rfl
theorem qright_M101 : qright_M 101 = qsize_sem := rfl
theorem qright_cxok : CxOK Try.prog qright_cx qright_M := ⟨tysOK, fnsOK, spCons ggcd_ok <| spCons qsize_ok <| fun _ _ h => spNil h, mixedOK, fun _ _ h => trNil h⟩

def qright_sem : SpecSem := { pre := fun cs => match cs with | [.i n, .i d] => IsI n ∧ IsI d | _ => False, out := fun cs => match cs with | [.i n, .i d] => [.b (decide (rtR n d))] | _ => [] }
theorem qright_ok : SpecOK Try.prog 39 qright_sp qright_sem := by
  refine spec_of_tree qright_cxok Try.func39 (by kernel_rfl) (by kernel_rfl) qright_walk rfl ?_
  intro cs hpre
  match cs, hpre with
  | [.i n, .i d], ⟨⟨h1, h2⟩, ⟨h3, h4⟩⟩ =>
    obtain ⟨z1, z2⟩ := absZ_le (a := n) ⟨h1, h2⟩
    obtain ⟨z3, z4⟩ := absZ_le (a := d) ⟨h3, h4⟩
    refine ⟨rfl, IvsB.ok (by simp only [qright_ivs, IvsB, Cv.int, and_true]; omega), ?_, ?_⟩
    · simp only [qright_sem, qright_sp, Fits]
    · simp only [qright_sem, qsize_sem, fsize_sem, ggcd_sem, qright_sp, IsU, IsI, qright_tree, qright_M102, ggcd_sem, qright_M101, qsize_sem, Tree.den, LE.den, Cv.list, placeA, List.getElem?_cons_zero, List.getElem?_cons_succ, IE.den, BE.den, At.den, CA.den, Env.get, Cv.int, Cv.bool, List.cons_append, List.nil_append, List.map_cons, List.map_nil, bindRes, bindEq, Fits, SV.den, denL, place, placeL, eq_t, eq_f, lt_t, lt_f, le_t, le_f, beq_iff_eq, beq_eq_false_iff_ne, ne_eq, reduceCtorEq, b_dec, decide_eq_true_eq, decide_eq_false_iff_not, Bool.not_eq_false', Bool.or_eq_true, Bool.or_eq_false_iff, Bool.and_eq_false_iff, true_iff, false_iff, Bool.false_eq_true, Bool.not_eq_true', Bool.and_eq_true, Bool.not_true, Bool.not_false, List.cons.injEq, Cv.i.injEq, Cv.b.injEq, and_true, true_and, agg_inj, tup_inj, Value.int.injEq, Value.bool.injEq]
      have hR : rtR n d ↔ (1 ≤ d ∧ gcdZ (absZ n) d = 1) := Iff.rfl
      have e2 : 1 ≤ d → absZ d = d := fun h => by unfold absZ; rw [if_neg (by omega)]
      have hg := gcdZ_rng (u := absZ n) (v := absZ d) (by omega) (by omega)
      simp only [val0, hR]
      by_cases hd : 1 ≤ d
      · rw [e2 hd] at *
        refine ⟨fun _ => ⟨by omega, ?_⟩, fun h => by omega⟩
        intro x hx _ _
        refine ⟨by omega, ?_⟩
        intro y hy _ _
        subst hx hy
        (repeat' (first | intro _ | refine And.intro ?_ ?_ | exact trivial)) <;> omega
      · (repeat' (first | intro _ | refine And.intro ?_ ?_ | exact trivial)) <;> omega
def qnew_sp : SpecSh := { args := [(.int .i64 (.z 0)), (.int .i64 (.z 0))], res := (.tup [(.agg [(.int .i64 (.z 0)), (.int .i64 (.z 0))]), (.int .i64 (.z 0))]), sh := [.i (some ((-9223372036854775808), 9223372036854775807)), .i (some ((-9223372036854775808), 9223372036854775807)), .i (some ((-9223372036854775808), 9223372036854775807))] }
set_option maxRecDepth 100000 in
def qnew_tree : Tree :=
.ite (.cmp .eq (.v 1) (.z 0)) (.ret (.tup [(.agg [(.int .i64 (.z 0)), (.int .i64 (.z 0))]), (.int .i64 (.z 4))])) <|
.call 101 [.i (some (0, 18446744073709551615))] [.i (.v 0)] <|
.call 101 [.i (some (0, 18446744073709551615))] [.i (.v 1)] <|
.call 100 [.i (some ((-9223372036854775808), 9223372036854775807)), .i (some ((-9223372036854775808), 9223372036854775807)), .i (some ((-9223372036854775808), 9223372036854775807))] [.b (.not (.eqv (.cmp .lt (.v 0) (.z 0)) (.cmp .lt (.v 1) (.z 0)))), .i (.z 0), .i (.v 2), .i (.z 0), .i (.v 3)] <|
.ret (.tup [(.agg [(.int .i64 (.v 4)), (.int .i64 (.v 5))]), (.int .i64 (.v 6))])
noncomputable def qnew_cx : Ctx := { tys := tys, fns := fns, sps := [(100, qlow_sp), (101, qsize_sp)], anns := [], trys := [] }
def qnew_ivs : List (Option (Int × Int)) := [some ((-9223372036854775808), 9223372036854775807), some ((-9223372036854775808), 9223372036854775807)]
set_option maxRecDepth 100000 in
theorem qnew_walk : runFn qnew_cx 3000 38 Try.f38 qnew_sp.args qnew_ivs = qnew_tree := by kernel_rfl
noncomputable def qnew_M : Nat → SpecSem
  | 100 => qlow_sem
  | 101 => qsize_sem
  | _ => noSem
theorem qnew_M100 : qnew_M 100 = qlow_sem := rfl
theorem qnew_M101 : qnew_M 101 = qsize_sem := rfl
theorem qnew_cxok : CxOK Try.prog qnew_cx qnew_M := ⟨tysOK, fnsOK, spCons qlow_ok <| spCons qsize_ok <| fun _ _ h => spNil h, mixedOK, fun _ _ h => trNil h⟩

def qnew_sem : SpecSem := { pre := fun cs => match cs with | [.i n, .i d] => IsI n ∧ IsI d | _ => False, out := fun cs => match cs with | [.i n, .i d] => rtG (d ≠ 0) 4 (if d < 0 then -n else n) (absZ d) | _ => [] }
theorem qnew_ok : SpecOK Try.prog 38 qnew_sp qnew_sem := by
  refine spec_of_tree qnew_cxok Try.func38 (by kernel_rfl) (by kernel_rfl) qnew_walk rfl ?_
  intro cs hpre
  match cs, hpre with
  | [.i n, .i d], ⟨⟨h1, h2⟩, ⟨h3, h4⟩⟩ =>
    obtain ⟨z1, z2⟩ := absZ_le (a := n) ⟨h1, h2⟩
    obtain ⟨z3, z4⟩ := absZ_le (a := d) ⟨h3, h4⟩
    refine ⟨rfl, IvsB.ok (by simp only [qnew_ivs, IvsB, Cv.int, and_true]; omega), ?_, ?_⟩
    · simp only [qnew_sem, qnew_sp, rtG, Fits, and_true]; have := rtG_fits (d ≠ 0) (why := 4) (by omega) (if d < 0 then -n else n) (absZ d); omega
    · simp only [qnew_sem, qsize_sem, fsize_sem, qlow_sem, rt, rtG, qnew_sp, IsU, IsI, lt_beq, qnew_tree, qnew_M100, qlow_sem, qnew_M101, qsize_sem, Tree.den, LE.den, Cv.list, placeA, List.getElem?_cons_zero, List.getElem?_cons_succ, IE.den, BE.den, At.den, CA.den, Env.get, Cv.int, Cv.bool, List.cons_append, List.nil_append, List.map_cons, List.map_nil, bindRes, bindEq, Fits, SV.den, denL, place, placeL, eq_t, eq_f, lt_t, lt_f, le_t, le_f, beq_iff_eq, beq_eq_false_iff_ne, ne_eq, reduceCtorEq, b_dec, decide_eq_true_eq, decide_eq_false_iff_not, Bool.not_eq_false', Bool.or_eq_true, Bool.or_eq_false_iff, Bool.and_eq_false_iff, true_iff, false_iff, Bool.false_eq_true, Bool.not_eq_true', Bool.and_eq_true, Bool.not_true, Bool.not_false, List.cons.injEq, Cv.i.injEq, Cv.b.injEq, and_true, true_and, agg_inj, tup_inj, Value.int.injEq, Value.bool.injEq]
      have hd0 : d ≠ 0 → val 0 (absZ d) = absZ d ∧ absZ d ≠ 0 := fun h => ⟨by unfold val; omega, by unfold absZ; split <;> omega⟩
      have hn0 : val 0 (absZ n) = absZ n := by unfold val; omega
      have hs : d ≠ 0 → sv (!decide (n < 0 ↔ d < 0)) (absZ n) = if d < 0 then -n else n := by
        intro h
        unfold sv absZ
        by_cases c1 : n < 0 <;> by_cases c2 : d < 0 <;> simp [c1, c2]
      by_cases hz : d = 0
      · simp only [hz, if_true, if_false, true_and, and_true, false_and, and_false, true_or, or_true, false_or, or_false, true_iff, iff_true, false_iff, iff_false, not_true_eq_false, not_false_eq_true, true_implies, false_implies, implies_true, forall_const, decide_true, decide_false, reduceCtorEq]
      · obtain ⟨e1, e2⟩ := hd0 hz
        have hs' := hs hz
        clear hs hd0
        simp only [hz, if_true, if_false, true_and, and_true, false_and, and_false, true_or, or_true, false_or, or_false, true_iff, iff_true, false_iff, iff_false, not_true_eq_false, not_false_eq_true, true_implies, false_implies, implies_true, forall_const, decide_true, decide_false, reduceCtorEq]
        refine ⟨by omega, ?_⟩
        intro x hx _ _
        refine ⟨by omega, ?_⟩
        intro y hy _ _
        subst hx hy
        simp only [e1, hn0, hs', e2, if_true, if_false, true_and, and_true, false_and, and_false, true_or, or_true, false_or, or_false, true_iff, iff_true, false_iff, iff_false, not_true_eq_false, not_false_eq_true, true_implies, false_implies, implies_true, forall_const, decide_true, decide_false, reduceCtorEq]
        (repeat' (first | intro _ | refine And.intro ?_ ?_ | exact trivial)) <;> omega
def qcmp_sp : SpecSh := { args := [(.agg [(.int .i64 (.z 0)), (.int .i64 (.z 0))]), (.agg [(.int .i64 (.z 0)), (.int .i64 (.z 0))])], res := (.tup [(.int .i64 (.z 0)), (.int .i64 (.z 0))]), sh := [.i (some ((-9223372036854775808), 9223372036854775807)), .i (some ((-9223372036854775808), 9223372036854775807))] }
set_option maxRecDepth 100000 in
def qcmp_tree : Tree :=
.call 39 [.b] [.i (.v 0), .i (.v 1)] <|
.ite (.not (.v 4)) (.ret (.tup [(.int .i64 (.z 0)), (.int .i64 (.z 1))])) <|
.call 39 [.b] [.i (.v 2), .i (.v 3)] <|
.ite (.not (.v 5)) (.ret (.tup [(.int .i64 (.z 0)), (.int .i64 (.z 1))])) <|
.call 108 [.b, .i (some (0, 18446744073709551615)), .i (some (0, 18446744073709551615))] [.i (.v 0), .i (.v 3)] <|
.call 108 [.b, .i (some (0, 18446744073709551615)), .i (some (0, 18446744073709551615))] [.i (.v 2), .i (.v 1)] <|
.call 110 [.b] [.b (.v 6), .i (.v 7), .i (.v 8), .b (.v 9), .i (.v 10), .i (.v 11)] <|
.ite (.v 12) (.ret (.tup [(.int .i64 (.z (-1))), (.int .i64 (.z 0))])) <|
.call 110 [.b] [.b (.v 9), .i (.v 10), .i (.v 11), .b (.v 6), .i (.v 7), .i (.v 8)] <|
.ite (.v 13) (.ret (.tup [(.int .i64 (.z 1)), (.int .i64 (.z 0))])) <|
.ret (.tup [(.int .i64 (.z 0)), (.int .i64 (.z 0))])
noncomputable def qcmp_cx : Ctx := { tys := tys, fns := fns, sps := [(39, qright_sp), (108, qprod_sp), (110, qless_sp)], anns := [], trys := [] }
def qcmp_ivs : List (Option (Int × Int)) := [some ((-9223372036854775808), 9223372036854775807), some ((-9223372036854775808), 9223372036854775807), some ((-9223372036854775808), 9223372036854775807), some ((-9223372036854775808), 9223372036854775807)]
set_option maxRecDepth 100000 in
theorem qcmp_walk : runFn qcmp_cx 3000 46 Try.f46 qcmp_sp.args qcmp_ivs = qcmp_tree := by kernel_rfl
noncomputable def qcmp_M : Nat → SpecSem
  | 39 => qright_sem
  | 108 => qprod_sem
  | 110 => qless_sem
  | _ => noSem
theorem qcmp_M39 : qcmp_M 39 = qright_sem := rfl
theorem qcmp_M108 : qcmp_M 108 = qprod_sem := rfl
theorem qcmp_M110 : qcmp_M 110 = qless_sem := rfl
theorem qcmp_cxok : CxOK Try.prog qcmp_cx qcmp_M := ⟨tysOK, fnsOK, spCons qright_ok <| spCons qprod_ok <| spCons qless_ok <| fun _ _ h => spNil h, mixedOK, fun _ _ h => trNil h⟩

def cmpZ (x y : Int) : Int := if x < y then -1 else if y < x then 1 else 0
def qcmp_sem : SpecSem := { pre := fun cs => match cs with | [.i a, .i b, .i c, .i d] => IsI a ∧ IsI b ∧ IsI c ∧ IsI d | _ => False, out := fun cs => match cs with | [.i a, .i b, .i c, .i d] => [.i (if rtR a b ∧ rtR c d then cmpZ (a * d) (c * b) else 0), .i (if rtR a b ∧ rtR c d then 0 else 1)] | _ => [] }
theorem sv_prod {a b : Int} (hb : 0 ≤ b) : sv (decide (¬(a < 0 ↔ b < 0))) (absZ a * absZ b) = a * b := by
  have eb : absZ b = b := by unfold absZ; rw [if_neg (by omega)]
  rw [eb]
  unfold sv absZ
  have h2 : ¬ b < 0 := by omega
  by_cases c1 : a < 0 <;> simp [c1, h2, Int.neg_mul]
theorem qcmp_ok : SpecOK Try.prog 46 qcmp_sp qcmp_sem := by
  refine spec_of_tree qcmp_cxok Try.func46 (by kernel_rfl) (by kernel_rfl) qcmp_walk rfl ?_
  intro cs hpre
  match cs, hpre with
  | [.i a, .i b, .i c, .i d], ⟨h1, h2, h3, h4⟩ =>
    have p1 := abs_mul_rng h1 h4
    have p2 := abs_mul_rng h3 h2
    have g1 : IsI a := h1
    have g2 : IsI b := h2
    have g3 : IsI c := h3
    have g4 : IsI d := h4
    unfold IsI at h1 h2 h3 h4
    refine ⟨rfl, IvsB.ok (by simp only [qcmp_ivs, IvsB, Cv.int, and_true]; omega), ?_, ?_⟩
    · simp only [qcmp_sem, qcmp_sp, cmpZ, Fits, and_true]; (repeat' split) <;> omega
    · simp only [qcmp_sem, qprod_sem, qless_sem, qright_sem, qcmp_sp, IsU, qcmp_tree, qcmp_M39, qright_sem, qcmp_M108, qprod_sem, qcmp_M110, qless_sem, Tree.den, LE.den, Cv.list, placeA, List.getElem?_cons_zero, List.getElem?_cons_succ, IE.den, BE.den, At.den, CA.den, Env.get, Cv.int, Cv.bool, List.cons_append, List.nil_append, List.map_cons, List.map_nil, bindRes, bindEq, Fits, SV.den, denL, place, placeL, eq_t, eq_f, lt_t, lt_f, le_t, le_f, beq_iff_eq, beq_eq_false_iff_ne, ne_eq, reduceCtorEq, b_dec, decide_eq_true_eq, decide_eq_false_iff_not, Bool.not_eq_false', Bool.or_eq_true, Bool.or_eq_false_iff, Bool.and_eq_false_iff, true_iff, false_iff, Bool.false_eq_true, Bool.not_eq_true', Bool.and_eq_true, Bool.not_true, Bool.not_false, List.cons.injEq, Cv.i.injEq, Cv.b.injEq, and_true, true_and, agg_inj, tup_inj, Value.int.injEq, Value.bool.injEq]
      have bnd : ∀ n1 n0 : Int, 0 ≤ n1 → n1 ≤ 18446744073709551615 → 0 ≤ n0 → n0 ≤ 18446744073709551615 → True := fun _ _ _ _ _ _ => trivial
      by_cases hR1 : rtR a b
      · by_cases hR2 : rtR c d
        · have s1 := sv_prod (a := a) (b := d) (by have := hR2.1; omega)
          have s2 := sv_prod (a := c) (b := b) (by have := hR1.1; omega)
          simp only [hR1, hR2, if_true, if_false, true_and, and_true, false_and, and_false, true_or, or_true, false_or, or_false, true_iff, iff_true, false_iff, iff_false, not_true_eq_false, not_false_eq_true, true_implies, false_implies, implies_true, forall_const, decide_true, decide_false, reduceCtorEq]
          refine ⟨⟨g1, g2⟩, ⟨g3, g4⟩, ⟨g1, g4⟩, ?_⟩
          intro x1 hx1 _ _ x0 hx0 _ _
          refine ⟨⟨g3, g2⟩, ?_⟩
          intro y1 hy1 _ _ y0 hy0 _ _
          have eX := val_split _ ⟨p1.1, by omega⟩ x1 x0 hx1 hx0
          have eY := val_split _ ⟨p2.1, by omega⟩ y1 y0 hy1 hy0
          rw [eX, eY, s1, s2]
          unfold cmpZ
          generalize a * d = P
          generalize c * b = Q
          (repeat' (first | intro _ | refine And.intro ?_ ?_ | exact trivial)) <;> omega
        · simp only [hR1, hR2, if_true, if_false, true_and, and_true, false_and, and_false, true_or, or_true, false_or, or_false, true_iff, iff_true, false_iff, iff_false, not_true_eq_false, not_false_eq_true, true_implies, false_implies, implies_true, forall_const, decide_true, decide_false, reduceCtorEq]
          exact ⟨⟨g1, g2⟩, g3, g4⟩
      · simp only [hR1, if_true, if_false, true_and, and_true, false_and, and_false, true_or, or_true, false_or, or_false, true_iff, iff_true, false_iff, iff_false, not_true_eq_false, not_false_eq_true, true_implies, false_implies, implies_true, forall_const, decide_true, decide_false, reduceCtorEq]
        exact ⟨g1, g2⟩
def qadd_sp : SpecSh := { args := [(.agg [(.int .i64 (.z 0)), (.int .i64 (.z 0))]), (.agg [(.int .i64 (.z 0)), (.int .i64 (.z 0))])], res := (.tup [(.agg [(.int .i64 (.z 0)), (.int .i64 (.z 0))]), (.int .i64 (.z 0))]), sh := [.i (some ((-9223372036854775808), 9223372036854775807)), .i (some ((-9223372036854775808), 9223372036854775807)), .i (some ((-9223372036854775808), 9223372036854775807))] }
set_option maxRecDepth 100000 in
def qadd_tree : Tree :=
.call 39 [.b] [.i (.v 0), .i (.v 1)] <|
.ite (.not (.v 4)) (.ret (.tup [(.agg [(.int .i64 (.z 0)), (.int .i64 (.z 0))]), (.int .i64 (.z 1))])) <|
.call 39 [.b] [.i (.v 2), .i (.v 3)] <|
.ite (.not (.v 5)) (.ret (.tup [(.agg [(.int .i64 (.z 0)), (.int .i64 (.z 0))]), (.int .i64 (.z 1))])) <|
.call 108 [.b, .i (some (0, 18446744073709551615)), .i (some (0, 18446744073709551615))] [.i (.v 0), .i (.v 3)] <|
.call 108 [.b, .i (some (0, 18446744073709551615)), .i (some (0, 18446744073709551615))] [.i (.v 2), .i (.v 1)] <|
.call 109 [.b, .i (some (0, 18446744073709551615)), .i (some (0, 18446744073709551615))] [.b (.v 6), .i (.v 7), .i (.v 8), .b (.v 9), .i (.v 10), .i (.v 11)] <|
.call 101 [.i (some (0, 18446744073709551615))] [.i (.v 1)] <|
.call 101 [.i (some (0, 18446744073709551615))] [.i (.v 3)] <|
.call 82 [.i (some (0, 18446744073709551615)), .i (some (0, 18446744073709551615))] [.i (.v 15), .i (.v 16)] <|
.call 100 [.i (some ((-9223372036854775808), 9223372036854775807)), .i (some ((-9223372036854775808), 9223372036854775807)), .i (some ((-9223372036854775808), 9223372036854775807))] [.b (.v 12), .i (.v 13), .i (.v 14), .i (.v 17), .i (.v 18)] <|
.ret (.tup [(.agg [(.int .i64 (.v 19)), (.int .i64 (.v 20))]), (.int .i64 (.v 21))])
noncomputable def qadd_cx : Ctx := { tys := tys, fns := fns, sps := [(39, qright_sp), (108, qprod_sp), (109, qplus_sp), (100, qlow_sp), (82, mul_sp), (101, qsize_sp)], anns := [], trys := [] }
def qadd_ivs : List (Option (Int × Int)) := [some ((-9223372036854775808), 9223372036854775807), some ((-9223372036854775808), 9223372036854775807), some ((-9223372036854775808), 9223372036854775807), some ((-9223372036854775808), 9223372036854775807)]
set_option maxRecDepth 100000 in
theorem qadd_walk : runFn qadd_cx 3000 44 Try.f44 qadd_sp.args qadd_ivs = qadd_tree := by kernel_rfl
noncomputable def qadd_M : Nat → SpecSem
  | 39 => qright_sem
  | 108 => qprod_sem
  | 109 => qplus_sem
  | 100 => qlow_sem
  | 82 => mul_sem
  | 101 => qsize_sem
  | _ => noSem
theorem qadd_M39 : qadd_M 39 = qright_sem := rfl
theorem qadd_M108 : qadd_M 108 = qprod_sem := rfl
theorem qadd_M109 : qadd_M 109 = qplus_sem := rfl
theorem qadd_M100 : qadd_M 100 = qlow_sem := rfl
theorem qadd_M82 : qadd_M 82 = mul_sem := rfl
theorem qadd_M101 : qadd_M 101 = qsize_sem := rfl
theorem qadd_cxok : CxOK Try.prog qadd_cx qadd_M := ⟨tysOK, fnsOK, spCons qright_ok <| spCons qprod_ok <| spCons qplus_ok <| spCons qlow_ok <| spCons mul_ok <| spCons qsize_ok <| fun _ _ h => spNil h, mixedOK, fun _ _ h => trNil h⟩

def qadd_sem : SpecSem := { pre := fun cs => match cs with | [.i a, .i b, .i c, .i d] => IsI a ∧ IsI b ∧ IsI c ∧ IsI d | _ => False, out := fun cs => match cs with | [.i a, .i b, .i c, .i d] => rtG (rtR a b ∧ rtR c d) 1 (a * d + c * b) (b * d) | _ => [] }
theorem qadd_ok : SpecOK Try.prog 44 qadd_sp qadd_sem := by
  refine spec_of_tree qadd_cxok Try.func44 (by kernel_rfl) (by kernel_rfl) qadd_walk rfl ?_
  intro cs hpre
  match cs, hpre with
  | [.i a, .i b, .i c, .i d], ⟨h1, h2, h3, h4⟩ =>
    have p1 := abs_mul_rng h1 h4
    have p2 := abs_mul_rng h3 h2
    have p3 := abs_mul_rng h2 h4
    have g1 : IsI a := h1
    have g2 : IsI b := h2
    have g3 : IsI c := h3
    have g4 : IsI d := h4
    unfold IsI at h1 h2 h3 h4
    refine ⟨rfl, IvsB.ok (by simp only [qadd_ivs, IvsB, Cv.int, and_true]; omega), ?_, ?_⟩
    · simp only [qadd_sem, qadd_sp, rtG, Fits, and_true]; have := rtG_fits (rtR a b ∧ rtR c d) (why := 1) (by omega) (a * d + c * b) (b * d); omega
    · simp only [qadd_sem, qprod_sem, qplus_sem, qlow_sem, qright_sem, qsize_sem, fsize_sem, rt, rtG, qadd_sp, IsU, qadd_tree, qadd_M39, qright_sem, qadd_M108, qprod_sem, qadd_M109, qplus_sem, qadd_M100, qlow_sem, qadd_M82, mul_sem, qadd_M101, qsize_sem, Tree.den, LE.den, Cv.list, placeA, List.getElem?_cons_zero, List.getElem?_cons_succ, IE.den, BE.den, At.den, CA.den, Env.get, Cv.int, Cv.bool, List.cons_append, List.nil_append, List.map_cons, List.map_nil, bindRes, bindEq, Fits, SV.den, denL, place, placeL, eq_t, eq_f, lt_t, lt_f, le_t, le_f, beq_iff_eq, beq_eq_false_iff_ne, ne_eq, reduceCtorEq, b_dec, decide_eq_true_eq, decide_eq_false_iff_not, Bool.not_eq_false', Bool.or_eq_true, Bool.or_eq_false_iff, Bool.and_eq_false_iff, true_iff, false_iff, Bool.false_eq_true, Bool.not_eq_true', Bool.and_eq_true, Bool.not_true, Bool.not_false, List.cons.injEq, Cv.i.injEq, Cv.b.injEq, and_true, true_and, agg_inj, tup_inj, Value.int.injEq, Value.bool.injEq]
      by_cases hR1 : rtR a b
      · by_cases hR2 : rtR c d
        · have s1 := sv_prod (a := a) (b := d) (by have := hR2.1; omega)
          have s2 := sv_prod (a := c) (b := b) (by have := hR1.1; omega)
          simp only [hR1, hR2, if_true, if_false, true_and, and_true, false_and, and_false, true_or, or_true, false_or, or_false, true_iff, iff_true, false_iff, iff_false, not_true_eq_false, not_false_eq_true, true_implies, false_implies, implies_true, forall_const, decide_true, decide_false, reduceCtorEq]
          have hb1 : 1 ≤ b := hR1.1
          have hd1 : 1 ≤ d := hR2.1
          have eb : absZ b = b := by unfold absZ; rw [if_neg (by omega)]
          have ed : absZ d = d := by unfold absZ; rw [if_neg (by omega)]
          have hbd : 1 ≤ b * d := Int.mul_le_mul hb1 hd1 (by omega) (by omega)
          have ss := svSum_rng (decide ¬(a < 0 ↔ d < 0)) (decide ¬(c < 0 ↔ b < 0)) p1.1 p2.1
          have sg := sv_sum (b := decide ¬(a < 0 ↔ d < 0)) (c := decide ¬(c < 0 ↔ b < 0)) (m := absZ a * absZ d) (n := absZ c * absZ b)
          rw [s1, s2] at sg
          rw [eb, ed] at p3
          refine ⟨⟨g1, g2⟩, ⟨g3, g4⟩, ⟨g1, g4⟩, ?_⟩
          intro x1 hx1 _ _ x0 hx0 _ _
          refine ⟨⟨g3, g2⟩, ?_⟩
          intro y1 hy1 _ _ y0 hy0 _ _
          have eX := val_split _ ⟨p1.1, by omega⟩ x1 x0 hx1 hx0
          have eY := val_split _ ⟨p2.1, by omega⟩ y1 y0 hy1 hy0
          rw [eX, eY]
          refine ⟨by omega, ?_⟩
          intro z1 hz1 _ _ z0 hz0 _ _
          refine ⟨g2, ?_⟩
          intro u hu _ _
          refine ⟨g4, ?_⟩
          intro v hv _ _
          rw [eb] at hu
          rw [ed] at hv
          subst hu hv
          refine ⟨by omega, ?_⟩
          intro w1 hw1 _ _ w0 hw0 _ _
          have eZ := val_split _ ⟨ss.1, by omega⟩ z1 z0 hz1 hz0
          have eW := val_split _ ⟨by omega, by omega⟩ w1 w0 hw1 hw0
          rw [eW, eZ, sg]
          clear hx1 hx0 hy1 hy0 hz1 hz0 hw1 hw0 eX eY eZ eW s1 s2
          (repeat' (first | intro _ | refine And.intro ?_ ?_ | exact trivial)) <;> omega
        · simp only [hR1, hR2, if_true, if_false, true_and, and_true, false_and, and_false, true_or, or_true, false_or, or_false, true_iff, iff_true, false_iff, iff_false, not_true_eq_false, not_false_eq_true, true_implies, false_implies, implies_true, forall_const, decide_true, decide_false, reduceCtorEq]
          exact ⟨⟨g1, g2⟩, g3, g4⟩
      · simp only [hR1, if_true, if_false, true_and, and_true, false_and, and_false, true_or, or_true, false_or, or_false, true_iff, iff_true, false_iff, iff_false, not_true_eq_false, not_false_eq_true, true_implies, false_implies, implies_true, forall_const, decide_true, decide_false, reduceCtorEq]
        exact ⟨g1, g2⟩
def qmul_sp : SpecSh := { args := [(.agg [(.int .i64 (.z 0)), (.int .i64 (.z 0))]), (.agg [(.int .i64 (.z 0)), (.int .i64 (.z 0))])], res := (.tup [(.agg [(.int .i64 (.z 0)), (.int .i64 (.z 0))]), (.int .i64 (.z 0))]), sh := [.i (some ((-9223372036854775808), 9223372036854775807)), .i (some ((-9223372036854775808), 9223372036854775807)), .i (some ((-9223372036854775808), 9223372036854775807))] }
set_option maxRecDepth 100000 in
def qmul_tree : Tree :=
.call 39 [.b] [.i (.v 0), .i (.v 1)] <|
.ite (.not (.v 4)) (.ret (.tup [(.agg [(.int .i64 (.z 0)), (.int .i64 (.z 0))]), (.int .i64 (.z 1))])) <|
.call 39 [.b] [.i (.v 2), .i (.v 3)] <|
.ite (.not (.v 5)) (.ret (.tup [(.agg [(.int .i64 (.z 0)), (.int .i64 (.z 0))]), (.int .i64 (.z 1))])) <|
.call 108 [.b, .i (some (0, 18446744073709551615)), .i (some (0, 18446744073709551615))] [.i (.v 0), .i (.v 2)] <|
.call 101 [.i (some (0, 18446744073709551615))] [.i (.v 1)] <|
.call 101 [.i (some (0, 18446744073709551615))] [.i (.v 3)] <|
.call 82 [.i (some (0, 18446744073709551615)), .i (some (0, 18446744073709551615))] [.i (.v 9), .i (.v 10)] <|
.call 100 [.i (some ((-9223372036854775808), 9223372036854775807)), .i (some ((-9223372036854775808), 9223372036854775807)), .i (some ((-9223372036854775808), 9223372036854775807))] [.b (.v 6), .i (.v 7), .i (.v 8), .i (.v 11), .i (.v 12)] <|
.ret (.tup [(.agg [(.int .i64 (.v 13)), (.int .i64 (.v 14))]), (.int .i64 (.v 15))])
noncomputable def qmul_cx : Ctx := { tys := tys, fns := fns, sps := [(39, qright_sp), (108, qprod_sp), (100, qlow_sp), (82, mul_sp), (101, qsize_sp)], anns := [], trys := [] }
def qmul_ivs : List (Option (Int × Int)) := [some ((-9223372036854775808), 9223372036854775807), some ((-9223372036854775808), 9223372036854775807), some ((-9223372036854775808), 9223372036854775807), some ((-9223372036854775808), 9223372036854775807)]
set_option maxRecDepth 100000 in
theorem qmul_walk : runFn qmul_cx 3000 45 Try.f45 qmul_sp.args qmul_ivs = qmul_tree := by kernel_rfl
noncomputable def qmul_M : Nat → SpecSem
  | 39 => qright_sem
  | 108 => qprod_sem
  | 100 => qlow_sem
  | 82 => mul_sem
  | 101 => qsize_sem
  | _ => noSem
theorem qmul_M39 : qmul_M 39 = qright_sem := rfl
theorem qmul_M108 : qmul_M 108 = qprod_sem := rfl
theorem qmul_M100 : qmul_M 100 = qlow_sem := rfl
theorem qmul_M82 : qmul_M 82 = mul_sem := rfl
theorem qmul_M101 : qmul_M 101 = qsize_sem := rfl
theorem qmul_cxok : CxOK Try.prog qmul_cx qmul_M := ⟨tysOK, fnsOK, spCons qright_ok <| spCons qprod_ok <| spCons qlow_ok <| spCons mul_ok <| spCons qsize_ok <| fun _ _ h => spNil h, mixedOK, fun _ _ h => trNil h⟩

def qmul_sem : SpecSem := { pre := fun cs => match cs with | [.i a, .i b, .i c, .i d] => IsI a ∧ IsI b ∧ IsI c ∧ IsI d | _ => False, out := fun cs => match cs with | [.i a, .i b, .i c, .i d] => rtG (rtR a b ∧ rtR c d) 1 (a * c) (b * d) | _ => [] }
theorem sv_prod' {a b : Int} : sv (decide (¬(a < 0 ↔ b < 0))) (absZ a * absZ b) = a * b := by
  unfold sv absZ
  by_cases c1 : a < 0 <;> by_cases c2 : b < 0 <;> simp [c1, c2, Int.neg_mul, Int.mul_neg]
theorem qmul_ok : SpecOK Try.prog 45 qmul_sp qmul_sem := by
  refine spec_of_tree qmul_cxok Try.func45 (by kernel_rfl) (by kernel_rfl) qmul_walk rfl ?_
  intro cs hpre
  match cs, hpre with
  | [.i a, .i b, .i c, .i d], ⟨h1, h2, h3, h4⟩ =>
    have p1 := abs_mul_rng h1 h3
    have p3 := abs_mul_rng h2 h4
    have g1 : IsI a := h1
    have g2 : IsI b := h2
    have g3 : IsI c := h3
    have g4 : IsI d := h4
    unfold IsI at h1 h2 h3 h4
    refine ⟨rfl, IvsB.ok (by simp only [qmul_ivs, IvsB, Cv.int, and_true]; omega), ?_, ?_⟩
    · simp only [qmul_sem, qmul_sp, rtG, Fits, and_true]; have := rtG_fits (rtR a b ∧ rtR c d) (why := 1) (by omega) (a * c) (b * d); omega
    · simp only [qmul_sem, qprod_sem, qlow_sem, qright_sem, qsize_sem, fsize_sem, rt, rtG, qmul_sp, IsU, qmul_tree, qmul_M39, qright_sem, qmul_M108, qprod_sem, qmul_M100, qlow_sem, qmul_M82, mul_sem, qmul_M101, qsize_sem, Tree.den, LE.den, Cv.list, placeA, List.getElem?_cons_zero, List.getElem?_cons_succ, IE.den, BE.den, At.den, CA.den, Env.get, Cv.int, Cv.bool, List.cons_append, List.nil_append, List.map_cons, List.map_nil, bindRes, bindEq, Fits, SV.den, denL, place, placeL, eq_t, eq_f, lt_t, lt_f, le_t, le_f, beq_iff_eq, beq_eq_false_iff_ne, ne_eq, reduceCtorEq, b_dec, decide_eq_true_eq, decide_eq_false_iff_not, Bool.not_eq_false', Bool.or_eq_true, Bool.or_eq_false_iff, Bool.and_eq_false_iff, true_iff, false_iff, Bool.false_eq_true, Bool.not_eq_true', Bool.and_eq_true, Bool.not_true, Bool.not_false, List.cons.injEq, Cv.i.injEq, Cv.b.injEq, and_true, true_and, agg_inj, tup_inj, Value.int.injEq, Value.bool.injEq]
      by_cases hR1 : rtR a b
      · by_cases hR2 : rtR c d
        · have s1 := sv_prod' (a := a) (b := c)
          simp only [hR1, hR2, if_true, if_false, true_and, and_true, false_and, and_false, true_or, or_true, false_or, or_false, true_iff, iff_true, false_iff, iff_false, not_true_eq_false, not_false_eq_true, true_implies, false_implies, implies_true, forall_const, decide_true, decide_false, reduceCtorEq]
          have hb1 : 1 ≤ b := hR1.1
          have hd1 : 1 ≤ d := hR2.1
          have eb : absZ b = b := by unfold absZ; rw [if_neg (by omega)]
          have ed : absZ d = d := by unfold absZ; rw [if_neg (by omega)]
          have hbd : 1 ≤ b * d := Int.mul_le_mul hb1 hd1 (by omega) (by omega)
          rw [eb, ed] at p3
          refine ⟨⟨g1, g2⟩, ⟨g3, g4⟩, ⟨g1, g3⟩, ?_⟩
          intro x1 hx1 _ _ x0 hx0 _ _
          have eX := val_split _ ⟨p1.1, by omega⟩ x1 x0 hx1 hx0
          rw [eX]
          refine ⟨g2, ?_⟩
          intro u hu _ _
          refine ⟨g4, ?_⟩
          intro v hv _ _
          rw [eb] at hu
          rw [ed] at hv
          subst hu hv
          refine ⟨by omega, ?_⟩
          intro w1 hw1 _ _ w0 hw0 _ _
          have eW := val_split _ ⟨by omega, by omega⟩ w1 w0 hw1 hw0
          rw [eW, s1]
          clear hx1 hx0 hw1 hw0 eX eW s1
          (repeat' (first | intro _ | refine And.intro ?_ ?_ | exact trivial)) <;> omega
        · simp only [hR1, hR2, if_true, if_false, true_and, and_true, false_and, and_false, true_or, or_true, false_or, or_false, true_iff, iff_true, false_iff, iff_false, not_true_eq_false, not_false_eq_true, true_implies, false_implies, implies_true, forall_const, decide_true, decide_false, reduceCtorEq]
          exact ⟨⟨g1, g2⟩, g3, g4⟩
      · simp only [hR1, if_true, if_false, true_and, and_true, false_and, and_false, true_or, or_true, false_or, or_false, true_iff, iff_true, false_iff, iff_false, not_true_eq_false, not_false_eq_true, true_implies, false_implies, implies_true, forall_const, decide_true, decide_false, reduceCtorEq]
        exact ⟨g1, g2⟩
def qenc_sp : SpecSh := { args := [(.agg [(.int .i64 (.z 0)), (.int .i64 (.z 0))]), (.int .i64 (.z 0))], res := (.tup [(.agg [(.int .i64 (.z 0)), (.int .i64 (.z 0))]), (.int .i64 (.z 0))]), sh := [.i (some ((-9223372036854775808), 9223372036854775807)), .i (some ((-9223372036854775808), 9223372036854775807)), .i (some ((-9223372036854775808), 9223372036854775807))] }
set_option maxRecDepth 100000 in
def qenc_tree : Tree :=
.call 39 [.b] [.i (.v 0), .i (.v 1)] <|
.ite (.not (.v 3)) (.ret (.tup [(.agg [(.int .i64 (.z 0)), (.int .i64 (.z 0))]), (.int .i64 (.z 1))])) <|
.ite (.cmp .lt (.v 2) (.z 1)) (.ret (.tup [(.agg [(.int .i64 (.z 0)), (.int .i64 (.z 0))]), (.int .i64 (.z 3))])) <|
.call 49 [.i (some ((-9223372036854775808), 9223372036854775807)), .i (some ((-9223372036854775808), 9223372036854775807))] [.i (.v 0), .i (.v 2), .i (.v 1), .i (.z 0)] <|
.call 49 [.i (some ((-9223372036854775808), 9223372036854775807)), .i (some ((-9223372036854775808), 9223372036854775807))] [.i (.v 0), .i (.v 2), .i (.v 1), .i (.z 1)] <|
.ite (.not (.cmp .eq (.v 5) (.z 0))) (.ret (.tup [(.agg [(.int .i64 (.z 0)), (.int .i64 (.z 0))]), (.int .i64 (.z 5))])) <|
.ite (.not (.cmp .eq (.v 7) (.z 0))) (.ret (.tup [(.agg [(.int .i64 (.z 0)), (.int .i64 (.z 0))]), (.int .i64 (.z 5))])) <|
.ret (.tup [(.agg [(.int .i64 (.v 4)), (.int .i64 (.v 6))]), (.int .i64 (.z 0))])
noncomputable def qenc_cx : Ctx := { tys := tys, fns := fns, sps := [(39, qright_sp), (49, fmd_sp)], anns := [], trys := [] }
def qenc_ivs : List (Option (Int × Int)) := [some ((-9223372036854775808), 9223372036854775807), some ((-9223372036854775808), 9223372036854775807), some ((-9223372036854775808), 9223372036854775807)]
set_option maxRecDepth 100000 in
theorem qenc_walk : runFn qenc_cx 3000 63 Try.f63 qenc_sp.args qenc_ivs = qenc_tree := by kernel_rfl
noncomputable def qenc_M : Nat → SpecSem
  | 39 => qright_sem
  | 49 => fmd_sem
  | _ => noSem
theorem qenc_M39 : qenc_M 39 = qright_sem := rfl
theorem qenc_M49 : qenc_M 49 = fmd_sem := rfl
theorem qenc_cxok : CxOK Try.prog qenc_cx qenc_M := ⟨tysOK, fnsOK, spCons qright_ok <| spCons fmd_ok <| fun _ _ h => spNil h, mixedOK, fun _ _ h => trNil h⟩

def qenc_sem : SpecSem := { pre := fun cs => match cs with | [.i a, .i b, .i s] => IsI a ∧ IsI b ∧ IsI s | _ => False, out := fun cs => match cs with | [.i a, .i b, .i s] => [.i (if rtR a b ∧ 1 ≤ s ∧ IsI (a * s / b) ∧ IsI (-(-(a * s) / b)) then a * s / b else 0), .i (if rtR a b ∧ 1 ≤ s ∧ IsI (a * s / b) ∧ IsI (-(-(a * s) / b)) then -(-(a * s) / b) else 0), .i (if rtR a b then (if 1 ≤ s then (if IsI (a * s / b) ∧ IsI (-(-(a * s) / b)) then 0 else 5) else 3) else 1)] | _ => [] }
theorem mdZ_down {a b c : Int} (hc : 0 < c) : mdZ a b c 0 = a * b / c := by
  have h : ¬ c < 0 := by omega
  simp only [mdZ, absZ, h, if_false]
  unfold roundZ
  rw [if_pos rfl]
theorem mdZ_up {a b c : Int} (hc : 0 < c) : mdZ a b c 1 = -(-(a * b) / c) := by
  have h : ¬ c < 0 := by omega
  simp only [mdZ, absZ, h, if_false]
  unfold roundZ
  rw [if_neg (by omega), if_pos rfl]
theorem qenc_ok : SpecOK Try.prog 63 qenc_sp qenc_sem := by
  refine spec_of_tree qenc_cxok Try.func63 (by kernel_rfl) (by kernel_rfl) qenc_walk rfl ?_
  intro cs hpre
  match cs, hpre with
  | [.i a, .i b, .i s], ⟨h1, h2, h3⟩ =>
    have g1 : IsI a := h1
    have g2 : IsI b := h2
    have g3 : IsI s := h3
    unfold IsI at h1 h2 h3
    refine ⟨rfl, IvsB.ok (by simp only [qenc_ivs, IvsB, Cv.int, and_true]; omega), ?_, ?_⟩
    · simp only [qenc_sem, qenc_sp, Fits, IsI, and_true]; (repeat' split) <;> omega
    · simp only [qenc_sem, qright_sem, fmd_sem, mdV, mdE, qenc_sp, qenc_tree, qenc_M39, qright_sem, qenc_M49, fmd_sem, Tree.den, LE.den, Cv.list, placeA, List.getElem?_cons_zero, List.getElem?_cons_succ, IE.den, BE.den, At.den, CA.den, Env.get, Cv.int, Cv.bool, List.cons_append, List.nil_append, List.map_cons, List.map_nil, bindRes, bindEq, Fits, SV.den, denL, place, placeL, eq_t, eq_f, lt_t, lt_f, le_t, le_f, beq_iff_eq, beq_eq_false_iff_ne, ne_eq, reduceCtorEq, b_dec, decide_eq_true_eq, decide_eq_false_iff_not, Bool.not_eq_false', Bool.or_eq_true, Bool.or_eq_false_iff, Bool.and_eq_false_iff, true_iff, false_iff, Bool.false_eq_true, Bool.not_eq_true', Bool.and_eq_true, Bool.not_true, Bool.not_false, List.cons.injEq, Cv.i.injEq, Cv.b.injEq, and_true, true_and, agg_inj, tup_inj, Value.int.injEq, Value.bool.injEq]
      by_cases hR1 : rtR a b
      · have hb1 : 0 < b := by have := hR1.1; omega
        have hb0 : ¬ b = 0 := by omega
        have e1 := mdZ_down (a := a) (b := s) hb1
        have e2 := mdZ_up (a := a) (b := s) hb1
        rw [e1, e2]
        generalize a * s / b = lo at *
        generalize -(-(a * s) / b) = hi at *
        by_cases i1 : IsI lo <;> by_cases i2 : IsI hi <;> simp only [hR1, hb0, i1, i2, ne_eq, if_true, if_false, true_and, and_true, false_and, and_false, true_or, or_true, false_or, or_false, true_iff, iff_true, false_iff, iff_false, not_true_eq_false, not_false_eq_true, true_implies, false_implies, implies_true, forall_const, decide_true, decide_false, reduceCtorEq]
        all_goals simp only [IsI] at *
        all_goals (repeat' (first | intro _ | refine And.intro ?_ ?_ | exact trivial)) <;> omega
      · simp only [hR1, if_true, if_false, true_and, and_true, false_and, and_false, true_or, or_true, false_or, or_false, true_iff, iff_true, false_iff, iff_false, not_true_eq_false, not_false_eq_true, true_implies, false_implies, implies_true, forall_const, decide_true, decide_false, reduceCtorEq]
        exact ⟨g1, g2⟩
end Go.Proofs.Ytlhmhcjpdpakkaa.X
