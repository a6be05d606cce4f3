/-
  The contracts of span.Mul, span.Div, span.Root, for every two spans.
-/
import Derived.Test.YtlhmhcjpdpakkaaSxSpan
import Derived.Test.YtlhmhcjpdpakkaaSxMulDiv
import Derived.Test.YtlhmhcjpdpakkaaSxRoot
namespace Go.Proofs.Ytlhmhcjpdpakkaa.X
open Go Go.SX Go.RowKit
set_option linter.unusedVariables false
set_option linter.unusedSimpArgs false


def mn4 (p q r s : Int) : Int := min (min (min p q) r) s
def mx4 (p q r s : Int) : Int := max (max (max p q) r) s
theorem fits4 {p q r s : Int} : (IsI (mn4 p q r s) ∧ IsI (mx4 p q r s)) ↔ (IsI p ∧ IsI q ∧ IsI r ∧ IsI s) := by
  unfold mn4 mx4 IsI; constructor <;> intro h <;> omega
def smul_sp : SpecSh := { args := [(.agg [(.int .i64 (.z 0)), (.int .i64 (.z 0))]), (.agg [(.int .i64 (.z 0)), (.int .i64 (.z 0))])], res := (.tup [(.agg [(.int .i64 (.z 0)), (.int .i64 (.z 0))]), (.int .i64 (.z 0))]), sh := [.i (some ((-9223372036854775808), 9223372036854775807)), .i (some ((-9223372036854775808), 9223372036854775807)), .i (some ((-9223372036854775808), 9223372036854775807))] }
set_option maxRecDepth 100000 in
def smul_tree : Tree :=
.ite (.not (.cmp .le (.v 0) (.v 1))) (.ret (.tup [(.agg [(.int .i64 (.z 0)), (.int .i64 (.z 0))]), (.int .i64 (.z 1))])) <|
.ite (.not (.cmp .le (.v 2) (.v 3))) (.ret (.tup [(.agg [(.int .i64 (.z 0)), (.int .i64 (.z 0))]), (.int .i64 (.z 1))])) <|
.call 27 [.i (some ((-9223372036854775808), 9223372036854775807)), .i (some ((-9223372036854775808), 9223372036854775807))] [.i (.v 0), .i (.v 2)] <|
.ite (.not (.cmp .eq (.v 5) (.z 0))) (.ret (.tup [(.agg [(.int .i64 (.z 0)), (.int .i64 (.z 0))]), (.int .i64 (.v 5))])) <|
.lett (.ite (.cmp .lt (.v 4) (.v 4)) (.v 4) (.v 4)) <|
.lett (.ite (.cmp .lt (.v 4) (.v 4)) (.v 4) (.v 4)) <|
.call 27 [.i (some ((-9223372036854775808), 9223372036854775807)), .i (some ((-9223372036854775808), 9223372036854775807))] [.i (.v 0), .i (.v 3)] <|
.ite (.not (.cmp .eq (.v 9) (.z 0))) (.ret (.tup [(.agg [(.int .i64 (.z 0)), (.int .i64 (.z 0))]), (.int .i64 (.v 9))])) <|
.lett (.ite (.cmp .lt (.v 8) (.v 6)) (.v 8) (.v 6)) <|
.lett (.ite (.cmp .lt (.v 7) (.v 8)) (.v 8) (.v 7)) <|
.call 27 [.i (some ((-9223372036854775808), 9223372036854775807)), .i (some ((-9223372036854775808), 9223372036854775807))] [.i (.v 1), .i (.v 2)] <|
.ite (.not (.cmp .eq (.v 13) (.z 0))) (.ret (.tup [(.agg [(.int .i64 (.z 0)), (.int .i64 (.z 0))]), (.int .i64 (.v 13))])) <|
.lett (.ite (.cmp .lt (.v 12) (.v 10)) (.v 12) (.v 10)) <|
.lett (.ite (.cmp .lt (.v 11) (.v 12)) (.v 12) (.v 11)) <|
.call 27 [.i (some ((-9223372036854775808), 9223372036854775807)), .i (some ((-9223372036854775808), 9223372036854775807))] [.i (.v 1), .i (.v 3)] <|
.ite (.not (.cmp .eq (.v 17) (.z 0))) (.ret (.tup [(.agg [(.int .i64 (.z 0)), (.int .i64 (.z 0))]), (.int .i64 (.v 17))])) <|
.lett (.ite (.cmp .lt (.v 16) (.v 14)) (.v 16) (.v 14)) <|
.lett (.ite (.cmp .lt (.v 15) (.v 16)) (.v 16) (.v 15)) <|
.ret (.tup [(.agg [(.int .i64 (.v 18)), (.int .i64 (.v 19))]), (.int .i64 (.z 0))])
noncomputable def smul_cx : Ctx := { tys := tys, fns := fns, sps := [(27, fmul_sp)], anns := [], trys := [] }
def smul_ivs : List (Option (Int × Int)) := [some ((-9223372036854775808), 9223372036854775807), some ((-9223372036854775808), 9223372036854775807), some ((-9223372036854775808), 9223372036854775807), some ((-9223372036854775808), 9223372036854775807)]
set_option maxRecDepth 100000 in
theorem smul_walk : runFn smul_cx 3000 24 Try.f24 smul_sp.args smul_ivs = smul_tree := by kernel_rfl
noncomputable def smul_M : Nat → SpecSem
  | 27 => fmul_sem
  | _ => noSem
theorem smul_M27 : smul_M 27 = fmul_sem := rfl
theorem smul_cxok : CxOK Try.prog smul_cx smul_M := ⟨tysOK, fnsOK, spCons fmul_ok <| fun _ _ h => spNil h, mixedOK, fun _ _ h => trNil h⟩

def smul_sem : SpecSem := { pre := fun cs => match cs with | [.i a, .i b, .i c, .i d] => IsI a ∧ IsI b ∧ IsI c ∧ IsI d | _ => False, out := fun cs => match cs with | [.i a, .i b, .i c, .i d] => spT (a ≤ b ∧ c ≤ d) (mn4 (a * c) (a * d) (b * c) (b * d)) (mx4 (a * c) (a * d) (b * c) (b * d)) | _ => [] }
theorem smul_ok : SpecOK Try.prog 24 smul_sp smul_sem := by
  refine spec_of_tree smul_cxok Try.func24 (by kernel_rfl) (by kernel_rfl) smul_walk rfl ?_
  intro cs hpre
  match cs, hpre with
  | [.i a, .i b, .i c, .i d], ⟨⟨h1, h2⟩, ⟨h3, h4⟩, ⟨h5, h6⟩, ⟨h7, h8⟩⟩ =>
    refine ⟨rfl, IvsB.ok (by simp only [smul_ivs, IvsB, Cv.int, and_true]; omega), ?_, ?_⟩
    · simp only [smul_sem, smul_sp, spT, Fits, and_true, IsI]; generalize mn4 (a * c) (a * d) (b * c) (b * d) = lo; generalize mx4 (a * c) (a * d) (b * c) (b * d) = hi; omega
    · simp only [smul_sem, smul_sp, spT, tell, smul_tree, smul_M27, fmul_sem, Tree.den, LE.den, Cv.list, placeA, List.getElem?_cons_zero, List.getElem?_cons_succ, IE.den, BE.den, At.den, CA.den, Env.get, Cv.int, Cv.bool, List.cons_append, List.nil_append, List.map_cons, List.map_nil, bindRes, bindEq, Fits, SV.den, denL, place, placeL, eq_t, eq_f, lt_t, lt_f, le_t, le_f, beq_iff_eq, beq_eq_false_iff_ne, ne_eq, reduceCtorEq, b_dec, decide_eq_true_eq, decide_eq_false_iff_not, Bool.not_eq_false', Bool.or_eq_true, Bool.or_eq_false_iff, Bool.and_eq_false_iff, true_iff, false_iff, Bool.false_eq_true, Bool.not_eq_true', Bool.and_eq_true, Bool.not_true, Bool.not_false, List.cons.injEq, Cv.i.injEq, Cv.b.injEq, and_true, true_and, agg_inj, tup_inj, Value.int.injEq, Value.bool.injEq]
      simp only [fits4]
      by_cases hr1 : a ≤ b
      · by_cases hr2 : c ≤ d
        · generalize a * c = p
          generalize a * d = q
          generalize b * c = r
          generalize b * d = s
          by_cases i1 : IsI p <;> by_cases i2 : IsI q <;> by_cases i3 : IsI r <;> by_cases i4 : IsI s
          all_goals
            simp only [hr1, hr2, i1, i2, i3, i4, if_true, if_false, true_and, and_true, false_and, and_false, true_or, or_true, false_or, or_false, true_iff, iff_true, false_iff, iff_false, not_true_eq_false, not_false_eq_true, true_implies, false_implies, implies_true, forall_const, decide_true, decide_false, reduceCtorEq]
            first
              | (unfold mn4 mx4; (repeat' (first | intro _ | refine And.intro ?_ ?_ | exact trivial)) <;> omega)
              | (repeat' (first | intro _ | refine And.intro ?_ ?_ | exact trivial)) <;> omega
        · simp only [hr1, hr2, if_true, if_false, true_and, and_true, false_and, and_false, true_or, or_true, false_or, or_false, true_iff, iff_true, false_iff, iff_false, not_true_eq_false, not_false_eq_true, true_implies, false_implies, implies_true, forall_const, decide_true, decide_false, reduceCtorEq]
      · simp only [hr1, if_true, if_false, true_and, and_true, false_and, and_false, true_or, or_true, false_or, or_false, true_iff, iff_true, false_iff, iff_false, not_true_eq_false, not_false_eq_true, true_implies, false_implies, implies_true, forall_const, decide_true, decide_false, reduceCtorEq]
/-- both ways of rounding -/
def dnZ (x y : Int) : Int := mdZ x 1 y 0
def upD (x y : Int) : Int := mdZ x 1 y 1
theorem dnZ_eq (x y : Int) : dnZ x y = (if y < 0 then -x else x) / absZ y := by
  unfold dnZ mdZ roundZ; rw [if_pos rfl, Int.mul_one]
theorem upD_eq (x y : Int) : upD x y = -(-(if y < 0 then -x else x) / absZ y) := by
  unfold upD mdZ roundZ; rw [if_neg (by omega), if_pos rfl, Int.mul_one]
theorem dn_up {x y : Int} (h : y ≠ 0) : dnZ x y ≤ upD x y := by
  rw [dnZ_eq, upD_eq]
  have hy : 0 < absZ y := by unfold absZ; split <;> omega
  generalize (if y < 0 then -x else x) = n
  have := neg_div (T := n) hy
  omega
theorem mdV0 {a c : Int} (h : c ≠ 0) : mdV a 1 c 0 = if IsI (dnZ a c) then dnZ a c else 0 := by
  unfold mdV dnZ
  by_cases hI : IsI (mdZ a 1 c 0) <;> simp [h, hI]
theorem mdV1 {a c : Int} (h : c ≠ 0) : mdV a 1 c 1 = if IsI (upD a c) then upD a c else 0 := by
  unfold mdV upD
  by_cases hI : IsI (mdZ a 1 c 1) <;> simp [h, hI]
theorem mdE0 {a c : Int} (h : c ≠ 0) : mdE a 1 c 0 = if IsI (dnZ a c) then 0 else 5 := by
  unfold mdE dnZ; rw [if_pos (by omega), if_neg h]
theorem mdE1 {a c : Int} (h : c ≠ 0) : mdE a 1 c 1 = if IsI (upD a c) then 0 else 5 := by
  unfold mdE upD; rw [if_pos (by omega), if_neg h]
/-- a span of quotients, or none and why -/
def qOK (a b c d : Int) : Prop := IsI (mn4 (dnZ a c) (dnZ a d) (dnZ b c) (dnZ b d)) ∧ IsI (mx4 (upD a c) (upD a d) (upD b c) (upD b d))
instance decQ (a b c d : Int) : Decidable (qOK a b c d) := by unfold qOK; exact inferInstance
def qLo (a b c d : Int) : Int := if ((a ≤ b ∧ c ≤ d) ∧ ¬(c ≤ 0 ∧ 0 ≤ d)) ∧ qOK a b c d then mn4 (dnZ a c) (dnZ a d) (dnZ b c) (dnZ b d) else 0
def qHi (a b c d : Int) : Int := if ((a ≤ b ∧ c ≤ d) ∧ ¬(c ≤ 0 ∧ 0 ≤ d)) ∧ qOK a b c d then mx4 (upD a c) (upD a d) (upD b c) (upD b d) else 0
def qEr (a b c d : Int) : Int := if a ≤ b ∧ c ≤ d then (if c ≤ 0 ∧ 0 ≤ d then 4 else if qOK a b c d then 0 else 5) else 1
theorem q_wrong {a b c d : Int} (h : ¬(a ≤ b ∧ c ≤ d)) : qLo a b c d = 0 ∧ qHi a b c d = 0 ∧ qEr a b c d = 1 := by
  unfold qLo qHi qEr
  rw [if_neg (fun k => h k.1.1), if_neg (fun k => h k.1.1), if_neg h]; exact ⟨rfl, rfl, rfl⟩
theorem q_zero {a b c d : Int} (h : a ≤ b ∧ c ≤ d) (z : c ≤ 0 ∧ 0 ≤ d) : qLo a b c d = 0 ∧ qHi a b c d = 0 ∧ qEr a b c d = 4 := by
  unfold qLo qHi qEr
  rw [if_neg (fun k => k.1.2 z), if_neg (fun k => k.1.2 z), if_pos h, if_pos z]; exact ⟨rfl, rfl, rfl⟩
theorem q_over {a b c d : Int} (h : a ≤ b ∧ c ≤ d) (z : ¬(c ≤ 0 ∧ 0 ≤ d)) (k : ¬qOK a b c d) : qLo a b c d = 0 ∧ qHi a b c d = 0 ∧ qEr a b c d = 5 := by
  unfold qLo qHi qEr
  rw [if_neg (fun m => k m.2), if_neg (fun m => k m.2), if_pos h, if_neg z, if_neg k]; exact ⟨rfl, rfl, rfl⟩
theorem q_fits {a b c d : Int} (h : a ≤ b ∧ c ≤ d) (z : ¬(c ≤ 0 ∧ 0 ≤ d)) (k : qOK a b c d) : qLo a b c d = mn4 (dnZ a c) (dnZ a d) (dnZ b c) (dnZ b d) ∧ qHi a b c d = mx4 (upD a c) (upD a d) (upD b c) (upD b d) ∧ qEr a b c d = 0 := by
  unfold qLo qHi qEr
  rw [if_pos ⟨⟨h, z⟩, k⟩, if_pos ⟨⟨h, z⟩, k⟩, if_pos h, if_neg z, if_pos k]; exact ⟨rfl, rfl, rfl⟩
theorem q_rng (a b c d : Int) : IsI (qLo a b c d) ∧ IsI (qHi a b c d) ∧ (0 ≤ qEr a b c d ∧ qEr a b c d ≤ 5) := by
  by_cases h : a ≤ b ∧ c ≤ d
  · by_cases z : c ≤ 0 ∧ 0 ≤ d
    · obtain ⟨e1, e2, e3⟩ := q_zero h z; rw [e1, e2, e3]; decide
    · by_cases k : qOK a b c d
      · obtain ⟨e1, e2, e3⟩ := q_fits h z k; rw [e1, e2, e3]; exact ⟨k.1, k.2, by omega⟩
      · obtain ⟨e1, e2, e3⟩ := q_over h z k; rw [e1, e2, e3]; decide
  · obtain ⟨e1, e2, e3⟩ := q_wrong h; rw [e1, e2, e3]; decide
theorem mn4_cases (p q r s : Int) : (mn4 p q r s ≤ p ∧ mn4 p q r s ≤ q ∧ mn4 p q r s ≤ r ∧ mn4 p q r s ≤ s) ∧ (mn4 p q r s = p ∨ mn4 p q r s = q ∨ mn4 p q r s = r ∨ mn4 p q r s = s) := by
  unfold mn4; omega
theorem mx4_cases (p q r s : Int) : (p ≤ mx4 p q r s ∧ q ≤ mx4 p q r s ∧ r ≤ mx4 p q r s ∧ s ≤ mx4 p q r s) ∧ (mx4 p q r s = p ∨ mx4 p q r s = q ∨ mx4 p q r s = r ∨ mx4 p q r s = s) := by
  unfold mx4; omega
theorem ite_min (x y : Int) {i : Decidable (x < y)} : (@ite Int (x < y) i x y) = min y x := by split <;> omega
theorem ite_max (x y : Int) {i : Decidable (x < y)} : (@ite Int (x < y) i y x) = max x y := by split <;> omega
theorem min_step {q q' : Int} (h : q ≤ q') (m : Int) : min (min m q) q' = min m q := by omega
theorem max_step {q q' : Int} (h : q ≤ q') (m : Int) : max (max m q) q' = max m q' := by omega
theorem f50 : ((5 : Int) = 0) = False := by simp
theorem f00 : (¬(0 : Int) = 0) = False := by simp
theorem fits8 {p q r s p' q' r' s' : Int} (h1 : p ≤ p') (h2 : q ≤ q') (h3 : r ≤ r') (h4 : s ≤ s') : (IsI (mn4 p q r s) ∧ IsI (mx4 p' q' r' s')) ↔ (IsI p ∧ IsI p' ∧ IsI q ∧ IsI q' ∧ IsI r ∧ IsI r' ∧ IsI s ∧ IsI s') := by
  obtain ⟨⟨a1, a2, a3, a4⟩, b⟩ := mn4_cases p q r s
  obtain ⟨⟨c1, c2, c3, c4⟩, d⟩ := mx4_cases p' q' r' s'
  generalize mn4 p q r s = m at *
  generalize mx4 p' q' r' s' = M at *
  unfold IsI
  constructor
  · intro h
    clear b d
    omega
  · rintro ⟨⟨e1, e2⟩, ⟨e3, e4⟩, ⟨e5, e6⟩, ⟨e7, e8⟩, ⟨e9, e10⟩, ⟨e11, e12⟩, ⟨e13, e14⟩, ⟨e15, e16⟩⟩
    refine ⟨⟨?_, ?_⟩, ⟨?_, ?_⟩⟩
    · clear d; rcases b with b | b | b | b <;> omega
    · omega
    · omega
    · clear b; rcases d with d | d | d | d <;> omega
def sdiv_sp : SpecSh := { args := [(.agg [(.int .i64 (.z 0)), (.int .i64 (.z 0))]), (.agg [(.int .i64 (.z 0)), (.int .i64 (.z 0))])], res := (.tup [(.agg [(.int .i64 (.z 0)), (.int .i64 (.z 0))]), (.int .i64 (.z 0))]), sh := [.i (some ((-9223372036854775808), 9223372036854775807)), .i (some ((-9223372036854775808), 9223372036854775807)), .i (some ((-9223372036854775808), 9223372036854775807))] }
set_option maxRecDepth 100000 in
def sdiv_tree : Tree :=
.ite (.cmp .le (.v 0) (.v 1)) (.ite (.cmp .le (.v 2) (.v 3)) (.ite (.cmp .le (.v 2) (.z 0)) (.ite (.cmp .le (.z 0) (.v 3)) (.ret (.tup [(.agg [(.int .i64 (.z 0)), (.int .i64 (.z 0))]), (.int .i64 (.z 4))])) <|
.call 49 [.i (some ((-9223372036854775808), 9223372036854775807)), .i (some ((-9223372036854775808), 9223372036854775807))] [.i (.v 0), .i (.z 1), .i (.v 2), .i (.z 0)] <|
.ite (.not (.cmp .eq (.v 5) (.z 0))) (.ret (.tup [(.agg [(.int .i64 (.z 0)), (.int .i64 (.z 0))]), (.int .i64 (.v 5))])) <|
.lett (.ite (.cmp .lt (.v 4) (.v 4)) (.v 4) (.v 4)) <|
.lett (.ite (.cmp .lt (.v 4) (.v 4)) (.v 4) (.v 4)) <|
.call 49 [.i (some ((-9223372036854775808), 9223372036854775807)), .i (some ((-9223372036854775808), 9223372036854775807))] [.i (.v 0), .i (.z 1), .i (.v 2), .i (.z 1)] <|
.ite (.not (.cmp .eq (.v 9) (.z 0))) (.ret (.tup [(.agg [(.int .i64 (.z 0)), (.int .i64 (.z 0))]), (.int .i64 (.v 9))])) <|
.lett (.ite (.cmp .lt (.v 8) (.v 6)) (.v 8) (.v 6)) <|
.lett (.ite (.cmp .lt (.v 7) (.v 8)) (.v 8) (.v 7)) <|
.call 49 [.i (some ((-9223372036854775808), 9223372036854775807)), .i (some ((-9223372036854775808), 9223372036854775807))] [.i (.v 0), .i (.z 1), .i (.v 3), .i (.z 0)] <|
.ite (.not (.cmp .eq (.v 13) (.z 0))) (.ret (.tup [(.agg [(.int .i64 (.z 0)), (.int .i64 (.z 0))]), (.int .i64 (.v 13))])) <|
.lett (.ite (.cmp .lt (.v 12) (.v 10)) (.v 12) (.v 10)) <|
.lett (.ite (.cmp .lt (.v 11) (.v 12)) (.v 12) (.v 11)) <|
.call 49 [.i (some ((-9223372036854775808), 9223372036854775807)), .i (some ((-9223372036854775808), 9223372036854775807))] [.i (.v 0), .i (.z 1), .i (.v 3), .i (.z 1)] <|
.ite (.not (.cmp .eq (.v 17) (.z 0))) (.ret (.tup [(.agg [(.int .i64 (.z 0)), (.int .i64 (.z 0))]), (.int .i64 (.v 17))])) <|
.lett (.ite (.cmp .lt (.v 16) (.v 14)) (.v 16) (.v 14)) <|
.lett (.ite (.cmp .lt (.v 15) (.v 16)) (.v 16) (.v 15)) <|
.call 49 [.i (some ((-9223372036854775808), 9223372036854775807)), .i (some ((-9223372036854775808), 9223372036854775807))] [.i (.v 1), .i (.z 1), .i (.v 2), .i (.z 0)] <|
.ite (.not (.cmp .eq (.v 21) (.z 0))) (.ret (.tup [(.agg [(.int .i64 (.z 0)), (.int .i64 (.z 0))]), (.int .i64 (.v 21))])) <|
.lett (.ite (.cmp .lt (.v 20) (.v 18)) (.v 20) (.v 18)) <|
.lett (.ite (.cmp .lt (.v 19) (.v 20)) (.v 20) (.v 19)) <|
.call 49 [.i (some ((-9223372036854775808), 9223372036854775807)), .i (some ((-9223372036854775808), 9223372036854775807))] [.i (.v 1), .i (.z 1), .i (.v 2), .i (.z 1)] <|
.ite (.not (.cmp .eq (.v 25) (.z 0))) (.ret (.tup [(.agg [(.int .i64 (.z 0)), (.int .i64 (.z 0))]), (.int .i64 (.v 25))])) <|
.lett (.ite (.cmp .lt (.v 24) (.v 22)) (.v 24) (.v 22)) <|
.lett (.ite (.cmp .lt (.v 23) (.v 24)) (.v 24) (.v 23)) <|
.call 49 [.i (some ((-9223372036854775808), 9223372036854775807)), .i (some ((-9223372036854775808), 9223372036854775807))] [.i (.v 1), .i (.z 1), .i (.v 3), .i (.z 0)] <|
.ite (.not (.cmp .eq (.v 29) (.z 0))) (.ret (.tup [(.agg [(.int .i64 (.z 0)), (.int .i64 (.z 0))]), (.int .i64 (.v 29))])) <|
.lett (.ite (.cmp .lt (.v 28) (.v 26)) (.v 28) (.v 26)) <|
.lett (.ite (.cmp .lt (.v 27) (.v 28)) (.v 28) (.v 27)) <|
.call 49 [.i (some ((-9223372036854775808), 9223372036854775807)), .i (some ((-9223372036854775808), 9223372036854775807))] [.i (.v 1), .i (.z 1), .i (.v 3), .i (.z 1)] <|
.ite (.not (.cmp .eq (.v 33) (.z 0))) (.ret (.tup [(.agg [(.int .i64 (.z 0)), (.int .i64 (.z 0))]), (.int .i64 (.v 33))])) <|
.lett (.ite (.cmp .lt (.v 32) (.v 30)) (.v 32) (.v 30)) <|
.lett (.ite (.cmp .lt (.v 31) (.v 32)) (.v 32) (.v 31)) <|
.ret (.tup [(.agg [(.int .i64 (.v 34)), (.int .i64 (.v 35))]), (.int .i64 (.z 0))])) <|
.call 49 [.i (some ((-9223372036854775808), 9223372036854775807)), .i (some ((-9223372036854775808), 9223372036854775807))] [.i (.v 0), .i (.z 1), .i (.v 2), .i (.z 0)] <|
.ite (.not (.cmp .eq (.v 5) (.z 0))) (.ret (.tup [(.agg [(.int .i64 (.z 0)), (.int .i64 (.z 0))]), (.int .i64 (.v 5))])) <|
.lett (.ite (.cmp .lt (.v 4) (.v 4)) (.v 4) (.v 4)) <|
.lett (.ite (.cmp .lt (.v 4) (.v 4)) (.v 4) (.v 4)) <|
.call 49 [.i (some ((-9223372036854775808), 9223372036854775807)), .i (some ((-9223372036854775808), 9223372036854775807))] [.i (.v 0), .i (.z 1), .i (.v 2), .i (.z 1)] <|
.ite (.not (.cmp .eq (.v 9) (.z 0))) (.ret (.tup [(.agg [(.int .i64 (.z 0)), (.int .i64 (.z 0))]), (.int .i64 (.v 9))])) <|
.lett (.ite (.cmp .lt (.v 8) (.v 6)) (.v 8) (.v 6)) <|
.lett (.ite (.cmp .lt (.v 7) (.v 8)) (.v 8) (.v 7)) <|
.call 49 [.i (some ((-9223372036854775808), 9223372036854775807)), .i (some ((-9223372036854775808), 9223372036854775807))] [.i (.v 0), .i (.z 1), .i (.v 3), .i (.z 0)] <|
.ite (.not (.cmp .eq (.v 13) (.z 0))) (.ret (.tup [(.agg [(.int .i64 (.z 0)), (.int .i64 (.z 0))]), (.int .i64 (.v 13))])) <|
.lett (.ite (.cmp .lt (.v 12) (.v 10)) (.v 12) (.v 10)) <|
.lett (.ite (.cmp .lt (.v 11) (.v 12)) (.v 12) (.v 11)) <|
.call 49 [.i (some ((-9223372036854775808), 9223372036854775807)), .i (some ((-9223372036854775808), 9223372036854775807))] [.i (.v 0), .i (.z 1), .i (.v 3), .i (.z 1)] <|
.ite (.not (.cmp .eq (.v 17) (.z 0))) (.ret (.tup [(.agg [(.int .i64 (.z 0)), (.int .i64 (.z 0))]), (.int .i64 (.v 17))])) <|
.lett (.ite (.cmp .lt (.v 16) (.v 14)) (.v 16) (.v 14)) <|
.lett (.ite (.cmp .lt (.v 15) (.v 16)) (.v 16) (.v 15)) <|
.call 49 [.i (some ((-9223372036854775808), 9223372036854775807)), .i (some ((-9223372036854775808), 9223372036854775807))] [.i (.v 1), .i (.z 1), .i (.v 2), .i (.z 0)] <|
.ite (.not (.cmp .eq (.v 21) (.z 0))) (.ret (.tup [(.agg [(.int .i64 (.z 0)), (.int .i64 (.z 0))]), (.int .i64 (.v 21))])) <|
.lett (.ite (.cmp .lt (.v 20) (.v 18)) (.v 20) (.v 18)) <|
.lett (.ite (.cmp .lt (.v 19) (.v 20)) (.v 20) (.v 19)) <|
.call 49 [.i (some ((-9223372036854775808), 9223372036854775807)), .i (some ((-9223372036854775808), 9223372036854775807))] [.i (.v 1), .i (.z 1), .i (.v 2), .i (.z 1)] <|
.ite (.not (.cmp .eq (.v 25) (.z 0))) (.ret (.tup [(.agg [(.int .i64 (.z 0)), (.int .i64 (.z 0))]), (.int .i64 (.v 25))])) <|
.lett (.ite (.cmp .lt (.v 24) (.v 22)) (.v 24) (.v 22)) <|
.lett (.ite (.cmp .lt (.v 23) (.v 24)) (.v 24) (.v 23)) <|
.call 49 [.i (some ((-9223372036854775808), 9223372036854775807)), .i (some ((-9223372036854775808), 9223372036854775807))] [.i (.v 1), .i (.z 1), .i (.v 3), .i (.z 0)] <|
.ite (.not (.cmp .eq (.v 29) (.z 0))) (.ret (.tup [(.agg [(.int .i64 (.z 0)), (.int .i64 (.z 0))]), (.int .i64 (.v 29))])) <|
.lett (.ite (.cmp .lt (.v 28) (.v 26)) (.v 28) (.v 26)) <|
.lett (.ite (.cmp .lt (.v 27) (.v 28)) (.v 28) (.v 27)) <|
.call 49 [.i (some ((-9223372036854775808), 9223372036854775807)), .i (some ((-9223372036854775808), 9223372036854775807))] [.i (.v 1), .i (.z 1), .i (.v 3), .i (.z 1)] <|
.ite (.not (.cmp .eq (.v 33) (.z 0))) (.ret (.tup [(.agg [(.int .i64 (.z 0)), (.int .i64 (.z 0))]), (.int .i64 (.v 33))])) <|
.lett (.ite (.cmp .lt (.v 32) (.v 30)) (.v 32) (.v 30)) <|
.lett (.ite (.cmp .lt (.v 31) (.v 32)) (.v 32) (.v 31)) <|
.ret (.tup [(.agg [(.int .i64 (.v 34)), (.int .i64 (.v 35))]), (.int .i64 (.z 0))])) <|
.ret (.tup [(.agg [(.int .i64 (.z 0)), (.int .i64 (.z 0))]), (.int .i64 (.z 1))])) <|
.ret (.tup [(.agg [(.int .i64 (.z 0)), (.int .i64 (.z 0))]), (.int .i64 (.z 1))])
noncomputable def sdiv_cx : Ctx := { tys := tys, fns := fns, sps := [(49, fmd_sp)], anns := [], trys := [] }
def sdiv_ivs : List (Option (Int × Int)) := [some ((-9223372036854775808), 9223372036854775807), some ((-9223372036854775808), 9223372036854775807), some ((-9223372036854775808), 9223372036854775807), some ((-9223372036854775808), 9223372036854775807)]
set_option maxRecDepth 100000 in
theorem sdiv_walk : runFn sdiv_cx 3000 48 Try.f48 sdiv_sp.args sdiv_ivs = sdiv_tree := by kernel_rfl
noncomputable def sdiv_M : Nat → SpecSem
  | 49 => fmd_sem
  | _ => noSem
theorem sdiv_M49 : sdiv_M 49 = fmd_sem := rfl
theorem sdiv_cxok : CxOK Try.prog sdiv_cx sdiv_M := ⟨tysOK, fnsOK, spCons fmd_ok <| fun _ _ h => spNil h, mixedOK, fun _ _ h => trNil h⟩
set_option maxRecDepth 100000 in
set_option maxHeartbeats 8000000 in
theorem sdiv_den (R RP : Value → Prop) (F : Ex → St → Js → Env → Prop) (J : Js) (x0 : Int) (x1 : Int) (x2 : Int) (x3 : Int) : Tree.den sdiv_M R RP F sdiv_tree J [(.i x0), (.i x1), (.i x2), (.i x3)] = (
  ((Cmp.den .le x0 x1) = true → ((Cmp.den .le x2 x3) = true → ((Cmp.den .le x2 (0 : Int)) = true → ((Cmp.den .le (0 : Int) x3) = true → R (Value.tuple [(Value.agg [(Value.int .i64 (0 : Int)), (Value.int .i64 (0 : Int))].toArray), (Value.int .i64 (4 : Int))].toArray)) ∧ ((Cmp.den .le (0 : Int) x3) = false → (fmd_sem.pre [(.i x0), (.i (1 : Int)), (.i x2), (.i (0 : Int))]) ∧ (
∀ x4 : Int, x4 = (Cv.int (Env.get (fmd_sem.out [(.i x0), (.i (1 : Int)), (.i x2), (.i (0 : Int))]) 0)) → (-9223372036854775808 : Int) ≤ x4 → x4 ≤ (9223372036854775807 : Int) →
∀ x5 : Int, x5 = (Cv.int (Env.get (fmd_sem.out [(.i x0), (.i (1 : Int)), (.i x2), (.i (0 : Int))]) 1)) → (-9223372036854775808 : Int) ≤ x5 → x5 ≤ (9223372036854775807 : Int) →
((!(Cmp.den .eq x5 (0 : Int))) = true → R (Value.tuple [(Value.agg [(Value.int .i64 (0 : Int)), (Value.int .i64 (0 : Int))].toArray), (Value.int .i64 x5)].toArray)) ∧ ((!(Cmp.den .eq x5 (0 : Int))) = false → ∀ x6 : Int, x6 = (if (Cmp.den .lt x4 x4) = true then x4 else x4) →
∀ x7 : Int, x7 = (if (Cmp.den .lt x4 x4) = true then x4 else x4) →
(fmd_sem.pre [(.i x0), (.i (1 : Int)), (.i x2), (.i (1 : Int))]) ∧ (
∀ x8 : Int, x8 = (Cv.int (Env.get (fmd_sem.out [(.i x0), (.i (1 : Int)), (.i x2), (.i (1 : Int))]) 0)) → (-9223372036854775808 : Int) ≤ x8 → x8 ≤ (9223372036854775807 : Int) →
∀ x9 : Int, x9 = (Cv.int (Env.get (fmd_sem.out [(.i x0), (.i (1 : Int)), (.i x2), (.i (1 : Int))]) 1)) → (-9223372036854775808 : Int) ≤ x9 → x9 ≤ (9223372036854775807 : Int) →
((!(Cmp.den .eq x9 (0 : Int))) = true → R (Value.tuple [(Value.agg [(Value.int .i64 (0 : Int)), (Value.int .i64 (0 : Int))].toArray), (Value.int .i64 x9)].toArray)) ∧ ((!(Cmp.den .eq x9 (0 : Int))) = false → ∀ x10 : Int, x10 = (if (Cmp.den .lt x8 x6) = true then x8 else x6) →
∀ x11 : Int, x11 = (if (Cmp.den .lt x7 x8) = true then x8 else x7) →
(fmd_sem.pre [(.i x0), (.i (1 : Int)), (.i x3), (.i (0 : Int))]) ∧ (
∀ x12 : Int, x12 = (Cv.int (Env.get (fmd_sem.out [(.i x0), (.i (1 : Int)), (.i x3), (.i (0 : Int))]) 0)) → (-9223372036854775808 : Int) ≤ x12 → x12 ≤ (9223372036854775807 : Int) →
∀ x13 : Int, x13 = (Cv.int (Env.get (fmd_sem.out [(.i x0), (.i (1 : Int)), (.i x3), (.i (0 : Int))]) 1)) → (-9223372036854775808 : Int) ≤ x13 → x13 ≤ (9223372036854775807 : Int) →
((!(Cmp.den .eq x13 (0 : Int))) = true → R (Value.tuple [(Value.agg [(Value.int .i64 (0 : Int)), (Value.int .i64 (0 : Int))].toArray), (Value.int .i64 x13)].toArray)) ∧ ((!(Cmp.den .eq x13 (0 : Int))) = false → ∀ x14 : Int, x14 = (if (Cmp.den .lt x12 x10) = true then x12 else x10) →
∀ x15 : Int, x15 = (if (Cmp.den .lt x11 x12) = true then x12 else x11) →
(fmd_sem.pre [(.i x0), (.i (1 : Int)), (.i x3), (.i (1 : Int))]) ∧ (
∀ x16 : Int, x16 = (Cv.int (Env.get (fmd_sem.out [(.i x0), (.i (1 : Int)), (.i x3), (.i (1 : Int))]) 0)) → (-9223372036854775808 : Int) ≤ x16 → x16 ≤ (9223372036854775807 : Int) →
∀ x17 : Int, x17 = (Cv.int (Env.get (fmd_sem.out [(.i x0), (.i (1 : Int)), (.i x3), (.i (1 : Int))]) 1)) → (-9223372036854775808 : Int) ≤ x17 → x17 ≤ (9223372036854775807 : Int) →
((!(Cmp.den .eq x17 (0 : Int))) = true → R (Value.tuple [(Value.agg [(Value.int .i64 (0 : Int)), (Value.int .i64 (0 : Int))].toArray), (Value.int .i64 x17)].toArray)) ∧ ((!(Cmp.den .eq x17 (0 : Int))) = false → ∀ x18 : Int, x18 = (if (Cmp.den .lt x16 x14) = true then x16 else x14) →
∀ x19 : Int, x19 = (if (Cmp.den .lt x15 x16) = true then x16 else x15) →
(fmd_sem.pre [(.i x1), (.i (1 : Int)), (.i x2), (.i (0 : Int))]) ∧ (
∀ x20 : Int, x20 = (Cv.int (Env.get (fmd_sem.out [(.i x1), (.i (1 : Int)), (.i x2), (.i (0 : Int))]) 0)) → (-9223372036854775808 : Int) ≤ x20 → x20 ≤ (9223372036854775807 : Int) →
∀ x21 : Int, x21 = (Cv.int (Env.get (fmd_sem.out [(.i x1), (.i (1 : Int)), (.i x2), (.i (0 : Int))]) 1)) → (-9223372036854775808 : Int) ≤ x21 → x21 ≤ (9223372036854775807 : Int) →
((!(Cmp.den .eq x21 (0 : Int))) = true → R (Value.tuple [(Value.agg [(Value.int .i64 (0 : Int)), (Value.int .i64 (0 : Int))].toArray), (Value.int .i64 x21)].toArray)) ∧ ((!(Cmp.den .eq x21 (0 : Int))) = false → ∀ x22 : Int, x22 = (if (Cmp.den .lt x20 x18) = true then x20 else x18) →
∀ x23 : Int, x23 = (if (Cmp.den .lt x19 x20) = true then x20 else x19) →
(fmd_sem.pre [(.i x1), (.i (1 : Int)), (.i x2), (.i (1 : Int))]) ∧ (
∀ x24 : Int, x24 = (Cv.int (Env.get (fmd_sem.out [(.i x1), (.i (1 : Int)), (.i x2), (.i (1 : Int))]) 0)) → (-9223372036854775808 : Int) ≤ x24 → x24 ≤ (9223372036854775807 : Int) →
∀ x25 : Int, x25 = (Cv.int (Env.get (fmd_sem.out [(.i x1), (.i (1 : Int)), (.i x2), (.i (1 : Int))]) 1)) → (-9223372036854775808 : Int) ≤ x25 → x25 ≤ (9223372036854775807 : Int) →
((!(Cmp.den .eq x25 (0 : Int))) = true → R (Value.tuple [(Value.agg [(Value.int .i64 (0 : Int)), (Value.int .i64 (0 : Int))].toArray), (Value.int .i64 x25)].toArray)) ∧ ((!(Cmp.den .eq x25 (0 : Int))) = false → ∀ x26 : Int, x26 = (if (Cmp.den .lt x24 x22) = true then x24 else x22) →
∀ x27 : Int, x27 = (if (Cmp.den .lt x23 x24) = true then x24 else x23) →
(fmd_sem.pre [(.i x1), (.i (1 : Int)), (.i x3), (.i (0 : Int))]) ∧ (
∀ x28 : Int, x28 = (Cv.int (Env.get (fmd_sem.out [(.i x1), (.i (1 : Int)), (.i x3), (.i (0 : Int))]) 0)) → (-9223372036854775808 : Int) ≤ x28 → x28 ≤ (9223372036854775807 : Int) →
∀ x29 : Int, x29 = (Cv.int (Env.get (fmd_sem.out [(.i x1), (.i (1 : Int)), (.i x3), (.i (0 : Int))]) 1)) → (-9223372036854775808 : Int) ≤ x29 → x29 ≤ (9223372036854775807 : Int) →
((!(Cmp.den .eq x29 (0 : Int))) = true → R (Value.tuple [(Value.agg [(Value.int .i64 (0 : Int)), (Value.int .i64 (0 : Int))].toArray), (Value.int .i64 x29)].toArray)) ∧ ((!(Cmp.den .eq x29 (0 : Int))) = false → ∀ x30 : Int, x30 = (if (Cmp.den .lt x28 x26) = true then x28 else x26) →
∀ x31 : Int, x31 = (if (Cmp.den .lt x27 x28) = true then x28 else x27) →
(fmd_sem.pre [(.i x1), (.i (1 : Int)), (.i x3), (.i (1 : Int))]) ∧ (
∀ x32 : Int, x32 = (Cv.int (Env.get (fmd_sem.out [(.i x1), (.i (1 : Int)), (.i x3), (.i (1 : Int))]) 0)) → (-9223372036854775808 : Int) ≤ x32 → x32 ≤ (9223372036854775807 : Int) →
∀ x33 : Int, x33 = (Cv.int (Env.get (fmd_sem.out [(.i x1), (.i (1 : Int)), (.i x3), (.i (1 : Int))]) 1)) → (-9223372036854775808 : Int) ≤ x33 → x33 ≤ (9223372036854775807 : Int) →
((!(Cmp.den .eq x33 (0 : Int))) = true → R (Value.tuple [(Value.agg [(Value.int .i64 (0 : Int)), (Value.int .i64 (0 : Int))].toArray), (Value.int .i64 x33)].toArray)) ∧ ((!(Cmp.den .eq x33 (0 : Int))) = false → ∀ x34 : Int, x34 = (if (Cmp.den .lt x32 x30) = true then x32 else x30) →
∀ x35 : Int, x35 = (if (Cmp.den .lt x31 x32) = true then x32 else x31) →
R (Value.tuple [(Value.agg [(Value.int .i64 x34), (Value.int .i64 x35)].toArray), (Value.int .i64 (0 : Int))].toArray))))))))))))))))))) ∧ ((Cmp.den .le x2 (0 : Int)) = false → (fmd_sem.pre [(.i x0), (.i (1 : Int)), (.i x2), (.i (0 : Int))]) ∧ (
∀ x4 : Int, x4 = (Cv.int (Env.get (fmd_sem.out [(.i x0), (.i (1 : Int)), (.i x2), (.i (0 : Int))]) 0)) → (-9223372036854775808 : Int) ≤ x4 → x4 ≤ (9223372036854775807 : Int) →
∀ x5 : Int, x5 = (Cv.int (Env.get (fmd_sem.out [(.i x0), (.i (1 : Int)), (.i x2), (.i (0 : Int))]) 1)) → (-9223372036854775808 : Int) ≤ x5 → x5 ≤ (9223372036854775807 : Int) →
((!(Cmp.den .eq x5 (0 : Int))) = true → R (Value.tuple [(Value.agg [(Value.int .i64 (0 : Int)), (Value.int .i64 (0 : Int))].toArray), (Value.int .i64 x5)].toArray)) ∧ ((!(Cmp.den .eq x5 (0 : Int))) = false → ∀ x6 : Int, x6 = (if (Cmp.den .lt x4 x4) = true then x4 else x4) →
∀ x7 : Int, x7 = (if (Cmp.den .lt x4 x4) = true then x4 else x4) →
(fmd_sem.pre [(.i x0), (.i (1 : Int)), (.i x2), (.i (1 : Int))]) ∧ (
∀ x8 : Int, x8 = (Cv.int (Env.get (fmd_sem.out [(.i x0), (.i (1 : Int)), (.i x2), (.i (1 : Int))]) 0)) → (-9223372036854775808 : Int) ≤ x8 → x8 ≤ (9223372036854775807 : Int) →
∀ x9 : Int, x9 = (Cv.int (Env.get (fmd_sem.out [(.i x0), (.i (1 : Int)), (.i x2), (.i (1 : Int))]) 1)) → (-9223372036854775808 : Int) ≤ x9 → x9 ≤ (9223372036854775807 : Int) →
((!(Cmp.den .eq x9 (0 : Int))) = true → R (Value.tuple [(Value.agg [(Value.int .i64 (0 : Int)), (Value.int .i64 (0 : Int))].toArray), (Value.int .i64 x9)].toArray)) ∧ ((!(Cmp.den .eq x9 (0 : Int))) = false → ∀ x10 : Int, x10 = (if (Cmp.den .lt x8 x6) = true then x8 else x6) →
∀ x11 : Int, x11 = (if (Cmp.den .lt x7 x8) = true then x8 else x7) →
(fmd_sem.pre [(.i x0), (.i (1 : Int)), (.i x3), (.i (0 : Int))]) ∧ (
∀ x12 : Int, x12 = (Cv.int (Env.get (fmd_sem.out [(.i x0), (.i (1 : Int)), (.i x3), (.i (0 : Int))]) 0)) → (-9223372036854775808 : Int) ≤ x12 → x12 ≤ (9223372036854775807 : Int) →
∀ x13 : Int, x13 = (Cv.int (Env.get (fmd_sem.out [(.i x0), (.i (1 : Int)), (.i x3), (.i (0 : Int))]) 1)) → (-9223372036854775808 : Int) ≤ x13 → x13 ≤ (9223372036854775807 : Int) →
((!(Cmp.den .eq x13 (0 : Int))) = true → R (Value.tuple [(Value.agg [(Value.int .i64 (0 : Int)), (Value.int .i64 (0 : Int))].toArray), (Value.int .i64 x13)].toArray)) ∧ ((!(Cmp.den .eq x13 (0 : Int))) = false → ∀ x14 : Int, x14 = (if (Cmp.den .lt x12 x10) = true then x12 else x10) →
∀ x15 : Int, x15 = (if (Cmp.den .lt x11 x12) = true then x12 else x11) →
(fmd_sem.pre [(.i x0), (.i (1 : Int)), (.i x3), (.i (1 : Int))]) ∧ (
∀ x16 : Int, x16 = (Cv.int (Env.get (fmd_sem.out [(.i x0), (.i (1 : Int)), (.i x3), (.i (1 : Int))]) 0)) → (-9223372036854775808 : Int) ≤ x16 → x16 ≤ (9223372036854775807 : Int) →
∀ x17 : Int, x17 = (Cv.int (Env.get (fmd_sem.out [(.i x0), (.i (1 : Int)), (.i x3), (.i (1 : Int))]) 1)) → (-9223372036854775808 : Int) ≤ x17 → x17 ≤ (9223372036854775807 : Int) →
((!(Cmp.den .eq x17 (0 : Int))) = true → R (Value.tuple [(Value.agg [(Value.int .i64 (0 : Int)), (Value.int .i64 (0 : Int))].toArray), (Value.int .i64 x17)].toArray)) ∧ ((!(Cmp.den .eq x17 (0 : Int))) = false → ∀ x18 : Int, x18 = (if (Cmp.den .lt x16 x14) = true then x16 else x14) →
∀ x19 : Int, x19 = (if (Cmp.den .lt x15 x16) = true then x16 else x15) →
(fmd_sem.pre [(.i x1), (.i (1 : Int)), (.i x2), (.i (0 : Int))]) ∧ (
∀ x20 : Int, x20 = (Cv.int (Env.get (fmd_sem.out [(.i x1), (.i (1 : Int)), (.i x2), (.i (0 : Int))]) 0)) → (-9223372036854775808 : Int) ≤ x20 → x20 ≤ (9223372036854775807 : Int) →
∀ x21 : Int, x21 = (Cv.int (Env.get (fmd_sem.out [(.i x1), (.i (1 : Int)), (.i x2), (.i (0 : Int))]) 1)) → (-9223372036854775808 : Int) ≤ x21 → x21 ≤ (9223372036854775807 : Int) →
((!(Cmp.den .eq x21 (0 : Int))) = true → R (Value.tuple [(Value.agg [(Value.int .i64 (0 : Int)), (Value.int .i64 (0 : Int))].toArray), (Value.int .i64 x21)].toArray)) ∧ ((!(Cmp.den .eq x21 (0 : Int))) = false → ∀ x22 : Int, x22 = (if (Cmp.den .lt x20 x18) = true then x20 else x18) →
∀ x23 : Int, x23 = (if (Cmp.den .lt x19 x20) = true then x20 else x19) →
(fmd_sem.pre [(.i x1), (.i (1 : Int)), (.i x2), (.i (1 : Int))]) ∧ (
∀ x24 : Int, x24 = (Cv.int (Env.get (fmd_sem.out [(.i x1), (.i (1 : Int)), (.i x2), (.i (1 : Int))]) 0)) → (-9223372036854775808 : Int) ≤ x24 → x24 ≤ (9223372036854775807 : Int) →
∀ x25 : Int, x25 = (Cv.int (Env.get (fmd_sem.out [(.i x1), (.i (1 : Int)), (.i x2), (.i (1 : Int))]) 1)) → (-9223372036854775808 : Int) ≤ x25 → x25 ≤ (9223372036854775807 : Int) →
((!(Cmp.den .eq x25 (0 : Int))) = true → R (Value.tuple [(Value.agg [(Value.int .i64 (0 : Int)), (Value.int .i64 (0 : Int))].toArray), (Value.int .i64 x25)].toArray)) ∧ ((!(Cmp.den .eq x25 (0 : Int))) = false → ∀ x26 : Int, x26 = (if (Cmp.den .lt x24 x22) = true then x24 else x22) →
∀ x27 : Int, x27 = (if (Cmp.den .lt x23 x24) = true then x24 else x23) →
(fmd_sem.pre [(.i x1), (.i (1 : Int)), (.i x3), (.i (0 : Int))]) ∧ (
∀ x28 : Int, x28 = (Cv.int (Env.get (fmd_sem.out [(.i x1), (.i (1 : Int)), (.i x3), (.i (0 : Int))]) 0)) → (-9223372036854775808 : Int) ≤ x28 → x28 ≤ (9223372036854775807 : Int) →
∀ x29 : Int, x29 = (Cv.int (Env.get (fmd_sem.out [(.i x1), (.i (1 : Int)), (.i x3), (.i (0 : Int))]) 1)) → (-9223372036854775808 : Int) ≤ x29 → x29 ≤ (9223372036854775807 : Int) →
((!(Cmp.den .eq x29 (0 : Int))) = true → R (Value.tuple [(Value.agg [(Value.int .i64 (0 : Int)), (Value.int .i64 (0 : Int))].toArray), (Value.int .i64 x29)].toArray)) ∧ ((!(Cmp.den .eq x29 (0 : Int))) = false → ∀ x30 : Int, x30 = (if (Cmp.den .lt x28 x26) = true then x28 else x26) →
∀ x31 : Int, x31 = (if (Cmp.den .lt x27 x28) = true then x28 else x27) →
(fmd_sem.pre [(.i x1), (.i (1 : Int)), (.i x3), (.i (1 : Int))]) ∧ (
∀ x32 : Int, x32 = (Cv.int (Env.get (fmd_sem.out [(.i x1), (.i (1 : Int)), (.i x3), (.i (1 : Int))]) 0)) → (-9223372036854775808 : Int) ≤ x32 → x32 ≤ (9223372036854775807 : Int) →
∀ x33 : Int, x33 = (Cv.int (Env.get (fmd_sem.out [(.i x1), (.i (1 : Int)), (.i x3), (.i (1 : Int))]) 1)) → (-9223372036854775808 : Int) ≤ x33 → x33 ≤ (9223372036854775807 : Int) →
((!(Cmp.den .eq x33 (0 : Int))) = true → R (Value.tuple [(Value.agg [(Value.int .i64 (0 : Int)), (Value.int .i64 (0 : Int))].toArray), (Value.int .i64 x33)].toArray)) ∧ ((!(Cmp.den .eq x33 (0 : Int))) = false → ∀ x34 : Int, x34 = (if (Cmp.den .lt x32 x30) = true then x32 else x30) →
∀ x35 : Int, x35 = (if (Cmp.den .lt x31 x32) = true then x32 else x31) →
R (Value.tuple [(Value.agg [(Value.int .i64 x34), (Value.int .i64 x35)].toArray), (Value.int .i64 (0 : Int))].toArray))))))))))))))))))) ∧ ((Cmp.den .le x2 x3) = false → R (Value.tuple [(Value.agg [(Value.int .i64 (0 : Int)), (Value.int .i64 (0 : Int))].toArray), (Value.int .i64 (1 : Int))].toArray))) ∧ ((Cmp.den .le x0 x1) = false → R (Value.tuple [(Value.agg [(Value.int .i64 (0 : Int)), (Value.int .i64 (0 : Int))].toArray), (Value.int .i64 (1 : Int))].toArray))) := by kernel_rfl

def sdiv_sem : SpecSem := { pre := fun cs => match cs with | [.i a, .i b, .i c, .i d] => IsI a ∧ IsI b ∧ IsI c ∧ IsI d | _ => False, out := fun cs => match cs with | [.i a, .i b, .i c, .i d] => [.i (qLo a b c d), .i (qHi a b c d), .i (qEr a b c d)] | _ => [] }
set_option maxHeartbeats 8000000 in
theorem sdiv_ok : SpecOK Try.prog 48 sdiv_sp sdiv_sem := by
  refine spec_of_tree sdiv_cxok Try.func48 (by kernel_rfl) (by kernel_rfl) sdiv_walk rfl ?_
  intro cs hpre
  match cs, hpre with
  | [.i a, .i b, .i c, .i d], ⟨⟨h1, h2⟩, ⟨h3, h4⟩, ⟨h5, h6⟩, ⟨h7, h8⟩⟩ =>
    have j1 : IsI a := ⟨h1, h2⟩
    have j2 : IsI b := ⟨h3, h4⟩
    have j3 : IsI c := ⟨h5, h6⟩
    have j4 : IsI d := ⟨h7, h8⟩
    refine ⟨rfl, IvsB.ok (by simp only [sdiv_ivs, IvsB, Cv.int, and_true]; omega), ?_, ?_⟩
    · simp only [sdiv_sem, sdiv_sp, Fits, and_true]; obtain ⟨⟨u1, u2⟩, ⟨u3, u4⟩, u5, u6⟩ := q_rng a b c d; omega
    · rw [sdiv_den]
      simp only [sdiv_sem, fmd_sem, sdiv_sp, sdiv_den, fmd_sem, Tree.den, LE.den, Cv.list, placeA, List.getElem?_cons_zero, List.getElem?_cons_succ, IE.den, BE.den, At.den, CA.den, Env.get, Cv.int, Cv.bool, List.cons_append, List.nil_append, List.map_cons, List.map_nil, bindRes, bindEq, Fits, SV.den, denL, place, placeL, eq_t, eq_f, lt_t, lt_f, le_t, le_f, beq_iff_eq, beq_eq_false_iff_ne, ne_eq, reduceCtorEq, b_dec, decide_eq_true_eq, decide_eq_false_iff_not, Bool.not_eq_false', Bool.or_eq_true, Bool.or_eq_false_iff, Bool.and_eq_false_iff, true_iff, false_iff, Bool.false_eq_true, Bool.not_eq_true', Bool.and_eq_true, Bool.not_true, Bool.not_false, List.cons.injEq, Cv.i.injEq, Cv.b.injEq, and_true, true_and, agg_inj, tup_inj, Value.int.injEq, Value.bool.injEq]
      have i0 : IsI 0 := by decide
      have i1 : IsI 1 := by decide
      by_cases hr : a ≤ b ∧ c ≤ d
      · by_cases hz : c ≤ 0 ∧ 0 ≤ d
        · obtain ⟨e1, e2, e3⟩ := q_zero hr hz
          rw [e1, e2, e3]
          simp only [hr.1, hr.2, hz.1, hz.2, if_true, if_false, true_and, and_true, false_and, and_false, true_or, or_true, false_or, or_false, true_iff, iff_true, false_iff, iff_false, not_true_eq_false, not_false_eq_true, true_implies, false_implies, implies_true, forall_const, decide_true, decide_false, reduceCtorEq]
          refine ⟨⟨⟨fun h => absurd h (by omega), fun h => absurd h (by omega)⟩, fun h => absurd h (by omega)⟩, fun h => absurd h (by omega)⟩
        · have c0 : c ≠ 0 := by omega
          have d0 : d ≠ 0 := by omega
          have l1 := dn_up (x := a) c0
          have l2 := dn_up (x := a) d0
          have l3 := dn_up (x := b) c0
          have l4 := dn_up (x := b) d0
          have F := fits8 l1 l2 l3 l4
          have K0 := q_over hr hz
          have K1 := q_fits hr hz
          unfold qOK at K0 K1
          rw [F] at K0 K1
          generalize qLo a b c d = L at *
          generalize qHi a b c d = H at *
          generalize qEr a b c d = E at *
          simp only [hr.1, hr.2, mdV0 c0, mdV0 d0, mdV1 c0, mdV1 d0, mdE0 c0, mdE0 d0, mdE1 c0, mdE1 d0, j1, j2, j3, j4, i0, i1, if_true, if_false, true_and, and_true, false_and, and_false, true_or, or_true, false_or, or_false, true_iff, iff_true, false_iff, iff_false, not_true_eq_false, not_false_eq_true, true_implies, false_implies, implies_true, forall_const, decide_true, decide_false, reduceCtorEq]
          clear c0 d0 F j1 j2 j3 j4
          generalize dnZ a c = p at *
          generalize dnZ a d = q at *
          generalize dnZ b c = r at *
          generalize dnZ b d = s at *
          generalize upD a c = p' at *
          generalize upD a d = q' at *
          generalize upD b c = r' at *
          generalize upD b d = s' at *
          by_cases k0 : IsI p
          · skip
            by_cases k1 : IsI p'
            · skip
              by_cases k2 : IsI q
              · skip
                by_cases k3 : IsI q'
                · skip
                  by_cases k4 : IsI r
                  · skip
                    by_cases k5 : IsI r'
                    · skip
                      by_cases k6 : IsI s
                      · skip
                        by_cases k7 : IsI s'
                        · skip
                          have K := K1 ⟨k0, k1, k2, k3, k4, k5, k6, k7⟩
                          have KL : min (min (min p q) r) s = L := K.1.symm
                          have KH : max (max (max p' q') r') s' = H := K.2.1.symm
                          have KE := K.2.2
                          simp only [k0, k1, k2, k3, k4, k5, k6, k7, forall_eq, f50, f00, eq_self, ite_min, ite_max, Int.min_self, Int.max_self, Int.min_eq_left l1, Int.max_eq_right l1, min_step l1, min_step l2, min_step l3, min_step l4, max_step l1, max_step l2, max_step l3, max_step l4, if_true, if_false, true_and, and_true, false_and, and_false, true_or, or_true, false_or, or_false, true_iff, iff_true, false_iff, iff_false, not_true_eq_false, not_false_eq_true, true_implies, false_implies, implies_true, forall_const, decide_true, decide_false, reduceCtorEq]
                          clear K0 K1 l1 l2 l3 l4 K
                          simp only [KL, KH]
                          clear KL KH
                          (repeat' (first | intro _ | refine And.intro ?_ ?_ | exact trivial)) <;> omega
                        · have K := K0 (fun h => k7 h.2.2.2.2.2.2.2)
                          simp only [k0, k1, k2, k3, k4, k5, k6, k7, forall_eq, f50, f00, eq_self, ite_min, ite_max, Int.min_self, Int.max_self, Int.min_eq_left l1, Int.max_eq_right l1, min_step l1, min_step l2, min_step l3, min_step l4, max_step l1, max_step l2, max_step l3, max_step l4, if_true, if_false, true_and, and_true, false_and, and_false, true_or, or_true, false_or, or_false, true_iff, iff_true, false_iff, iff_false, not_true_eq_false, not_false_eq_true, true_implies, false_implies, implies_true, forall_const, decide_true, decide_false, reduceCtorEq]
                          clear K0 K1 l1 l2 l3 l4
                          (repeat' (first | intro _ | refine And.intro ?_ ?_ | exact trivial)) <;> omega
                      · have K := K0 (fun h => k6 h.2.2.2.2.2.2.1)
                        simp only [k0, k1, k2, k3, k4, k5, k6, forall_eq, f50, f00, eq_self, ite_min, ite_max, Int.min_self, Int.max_self, Int.min_eq_left l1, Int.max_eq_right l1, min_step l1, min_step l2, min_step l3, min_step l4, max_step l1, max_step l2, max_step l3, max_step l4, if_true, if_false, true_and, and_true, false_and, and_false, true_or, or_true, false_or, or_false, true_iff, iff_true, false_iff, iff_false, not_true_eq_false, not_false_eq_true, true_implies, false_implies, implies_true, forall_const, decide_true, decide_false, reduceCtorEq]
                        clear K0 K1 l1 l2 l3 l4
                        (repeat' (first | intro _ | refine And.intro ?_ ?_ | exact trivial)) <;> omega
                    · have K := K0 (fun h => k5 h.2.2.2.2.2.1)
                      simp only [k0, k1, k2, k3, k4, k5, forall_eq, f50, f00, eq_self, ite_min, ite_max, Int.min_self, Int.max_self, Int.min_eq_left l1, Int.max_eq_right l1, min_step l1, min_step l2, min_step l3, min_step l4, max_step l1, max_step l2, max_step l3, max_step l4, if_true, if_false, true_and, and_true, false_and, and_false, true_or, or_true, false_or, or_false, true_iff, iff_true, false_iff, iff_false, not_true_eq_false, not_false_eq_true, true_implies, false_implies, implies_true, forall_const, decide_true, decide_false, reduceCtorEq]
                      clear K0 K1 l1 l2 l3 l4
                      (repeat' (first | intro _ | refine And.intro ?_ ?_ | exact trivial)) <;> omega
                  · have K := K0 (fun h => k4 h.2.2.2.2.1)
                    simp only [k0, k1, k2, k3, k4, forall_eq, f50, f00, eq_self, ite_min, ite_max, Int.min_self, Int.max_self, Int.min_eq_left l1, Int.max_eq_right l1, min_step l1, min_step l2, min_step l3, min_step l4, max_step l1, max_step l2, max_step l3, max_step l4, if_true, if_false, true_and, and_true, false_and, and_false, true_or, or_true, false_or, or_false, true_iff, iff_true, false_iff, iff_false, not_true_eq_false, not_false_eq_true, true_implies, false_implies, implies_true, forall_const, decide_true, decide_false, reduceCtorEq]
                    clear K0 K1 l1 l2 l3 l4
                    (repeat' (first | intro _ | refine And.intro ?_ ?_ | exact trivial)) <;> omega
                · have K := K0 (fun h => k3 h.2.2.2.1)
                  simp only [k0, k1, k2, k3, forall_eq, f50, f00, eq_self, ite_min, ite_max, Int.min_self, Int.max_self, Int.min_eq_left l1, Int.max_eq_right l1, min_step l1, min_step l2, min_step l3, min_step l4, max_step l1, max_step l2, max_step l3, max_step l4, if_true, if_false, true_and, and_true, false_and, and_false, true_or, or_true, false_or, or_false, true_iff, iff_true, false_iff, iff_false, not_true_eq_false, not_false_eq_true, true_implies, false_implies, implies_true, forall_const, decide_true, decide_false, reduceCtorEq]
                  clear K0 K1 l1 l2 l3 l4
                  (repeat' (first | intro _ | refine And.intro ?_ ?_ | exact trivial)) <;> omega
              · have K := K0 (fun h => k2 h.2.2.1)
                simp only [k0, k1, k2, forall_eq, f50, f00, eq_self, ite_min, ite_max, Int.min_self, Int.max_self, Int.min_eq_left l1, Int.max_eq_right l1, min_step l1, min_step l2, min_step l3, min_step l4, max_step l1, max_step l2, max_step l3, max_step l4, if_true, if_false, true_and, and_true, false_and, and_false, true_or, or_true, false_or, or_false, true_iff, iff_true, false_iff, iff_false, not_true_eq_false, not_false_eq_true, true_implies, false_implies, implies_true, forall_const, decide_true, decide_false, reduceCtorEq]
                clear K0 K1 l1 l2 l3 l4
                (repeat' (first | intro _ | refine And.intro ?_ ?_ | exact trivial)) <;> omega
            · have K := K0 (fun h => k1 h.2.1)
              simp only [k0, k1, forall_eq, f50, f00, eq_self, ite_min, ite_max, Int.min_self, Int.max_self, Int.min_eq_left l1, Int.max_eq_right l1, min_step l1, min_step l2, min_step l3, min_step l4, max_step l1, max_step l2, max_step l3, max_step l4, if_true, if_false, true_and, and_true, false_and, and_false, true_or, or_true, false_or, or_false, true_iff, iff_true, false_iff, iff_false, not_true_eq_false, not_false_eq_true, true_implies, false_implies, implies_true, forall_const, decide_true, decide_false, reduceCtorEq]
              clear K0 K1 l1 l2 l3 l4
              (repeat' (first | intro _ | refine And.intro ?_ ?_ | exact trivial)) <;> omega
          · have K := K0 (fun h => k0 h.1)
            simp only [k0, forall_eq, f50, f00, eq_self, ite_min, ite_max, Int.min_self, Int.max_self, Int.min_eq_left l1, Int.max_eq_right l1, min_step l1, min_step l2, min_step l3, min_step l4, max_step l1, max_step l2, max_step l3, max_step l4, if_true, if_false, true_and, and_true, false_and, and_false, true_or, or_true, false_or, or_false, true_iff, iff_true, false_iff, iff_false, not_true_eq_false, not_false_eq_true, true_implies, false_implies, implies_true, forall_const, decide_true, decide_false, reduceCtorEq]
            clear K0 K1 l1 l2 l3 l4
            (repeat' (first | intro _ | refine And.intro ?_ ?_ | exact trivial)) <;> omega
      · obtain ⟨e1, e2, e3⟩ := q_wrong hr
        rw [e1, e2, e3]
        refine ⟨fun h => ⟨fun h2 => absurd ⟨h, h2⟩ hr, fun _ => by omega⟩, fun _ => by omega⟩
end Go.Proofs.Ytlhmhcjpdpakkaa.X
