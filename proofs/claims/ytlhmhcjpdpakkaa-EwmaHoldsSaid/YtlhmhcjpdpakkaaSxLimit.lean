/-
  The contracts of limit's points and lines, and of the reference's (datumref17), for every input in range.
-/
import Derived.Test.YtlhmhcjpdpakkaaSxSpanMul
import Derived.Test.YtlhmhcjpdpakkaaSxTimes
import Derived.Test.YtlhmhcjpdpakkaaSxRef4M
import Derived.Test.YtlhmhcjpdpakkaaSxRefRoot
import Derived.Test.YtlhmhcjpdpakkaaSxSpanRoot
namespace Go.Proofs.Ytlhmhcjpdpakkaa.X
open Go Go.SX Go.RowKit
set_option linter.unusedVariables false
set_option linter.unusedSimpArgs false








def ptOK (c d e h : Int) : Prop := (1 ≤ d ∧ d ≤ 100000000000000) ∧ (-100000000000000 ≤ c ∧ c ≤ 100000000000000) ∧ (-100000000000000 ≤ e ∧ e ≤ 100000000000000) ∧ h < 274877906944
instance decPt (c d e h : Int) : Decidable (ptOK c d e h) := by unfold ptOK; exact inferInstance
def lright_sp : SpecSh := { args := [(.agg [(.int .i64 (.z 0)), (.int .i64 (.z 0)), (.int .i64 (.z 0)), (.int .u64 (.z 0)), (.int .u64 (.z 0))])], res := (.bool .f), sh := [.b] }
set_option maxRecDepth 100000 in
def lright_tree : Tree :=
.ite (.cmp .le (.z 1) (.v 1)) (.ite (.not (.cmp .lt (.z 100000000000000) (.v 1))) (.ite (.cmp .lt (.v 0) (.z (-100000000000000))) (.ret (.bool .f)) <|
.ite (.not (.cmp .lt (.z 100000000000000) (.v 0))) (.ite (.cmp .lt (.v 2) (.z (-100000000000000))) (.ret (.bool .f)) <|
.ite (.not (.cmp .lt (.z 100000000000000) (.v 2))) (.ret (.bool (.cmp .lt (.v 3) (.z 274877906944)))) <|
.ret (.bool .f)) <|
.ret (.bool .f)) <|
.ret (.bool .f)) <|
.ret (.bool .f)
noncomputable def lright_cx : Ctx := { tys := tys, fns := fns, sps := [], anns := [], trys := [] }
def lright_ivs : List (Option (Int × Int)) := [some ((-9223372036854775808), 9223372036854775807), some ((-9223372036854775808), 9223372036854775807), some ((-9223372036854775808), 9223372036854775807), some (0, 18446744073709551615), some (0, 18446744073709551615)]
set_option maxRecDepth 100000 in
theorem lright_walk : runFn lright_cx 3000 55 Try.f55 lright_sp.args lright_ivs = lright_tree := by kernel_rfl
noncomputable def lright_M : Nat → SpecSem
  | _ => noSem
theorem lright_cxok : CxOK Try.prog lright_cx lright_M := ⟨tysOK, fnsOK, fun _ _ h => spNil h, mixedOK, fun _ _ h => trNil h⟩

def lright_sem : SpecSem := { pre := fun cs => match cs with | [.i c, .i d, .i e, .i h, .i l] => IsI c ∧ IsI d ∧ IsI e ∧ IsU h ∧ IsU l | _ => False, out := fun cs => match cs with | [.i c, .i d, .i e, .i h, .i l] => [.b (decide (ptOK c d e h))] | _ => [] }
set_option maxRecDepth 10000 in
set_option maxHeartbeats 16000000 in
theorem lright_ok : SpecOK Try.prog 55 lright_sp lright_sem := by
  refine spec_of_tree lright_cxok Try.func55 (by kernel_rfl) (by kernel_rfl) lright_walk rfl ?_
  intro cs hpre
  match cs, hpre with
  | [.i c, .i d, .i e, .i h, .i l], ⟨j_c, j_d, j_e, j_h, j_l⟩ =>
    have h_c := j_c
    unfold IsI at h_c
    have h_d := j_d
    unfold IsI at h_d
    have h_e := j_e
    unfold IsI at h_e
    have h_h := j_h
    unfold IsU at h_h
    have h_l := j_l
    unfold IsU at h_l
    refine ⟨rfl, IvsB.ok (by simp only [lright_ivs, IvsB, Cv.int, and_true] <;> omega), ?_, ?_⟩
    · simp only [lright_sem, lright_sp, Fits]
    · simp only [lright_sem, lright_sp, lright_tree, Tree.den, LE.den, Cv.list, placeA, List.getElem?_cons_zero, List.getElem?_cons_succ, IE.den, BE.den, At.den, CA.den, Env.get, Cv.int, Cv.bool, List.cons_append, List.nil_append, List.map_cons, List.map_nil, bindRes, bindEq, Fits, SV.den, denL, place, placeL, eq_t, eq_f, lt_t, lt_f, le_t, le_f, beq_iff_eq, beq_eq_false_iff_ne, ne_eq, reduceCtorEq, b_dec, decide_eq_true_eq, decide_eq_false_iff_not, Bool.not_eq_false', Bool.or_eq_true, Bool.or_eq_false_iff, Bool.and_eq_false_iff, true_iff, false_iff, Bool.false_eq_true, Bool.not_eq_true', Bool.and_eq_true, Bool.not_true, Bool.not_false, List.cons.injEq, Cv.i.injEq, Cv.b.injEq, and_true, true_and, agg_inj, tup_inj, Value.int.injEq, Value.bool.injEq]
      simp only [ptOK]
      (repeat' (first | intro _ | refine And.intro ?_ ?_ | exact trivial)) <;> omega
def r17right_sp : SpecSh := { args := [(.agg [(.int .i64 (.z 0)), (.int .i64 (.z 0)), (.int .i64 (.z 0)), (.int .u64 (.z 0)), (.int .u64 (.z 0))])], res := (.bool .f), sh := [.b] }
set_option maxRecDepth 100000 in
def r17right_tree : Tree :=
.ite (.cmp .le (.z 1) (.v 1)) (.ite (.cmp .le (.v 1) (.z 100000000000000)) (.ite (.cmp .le (.z (-100000000000000)) (.v 0)) (.ite (.cmp .le (.v 0) (.z 100000000000000)) (.ite (.cmp .le (.z (-100000000000000)) (.v 2)) (.ite (.cmp .le (.v 2) (.z 100000000000000)) (.ret (.bool (.cmp .lt (.v 3) (.z 274877906944)))) <|
.ret (.bool .f)) <|
.ret (.bool .f)) <|
.ret (.bool .f)) <|
.ret (.bool .f)) <|
.ret (.bool .f)) <|
.ret (.bool .f)
noncomputable def r17right_cx : Ctx := { tys := tys, fns := fns, sps := [], anns := [], trys := [] }
def r17right_ivs : List (Option (Int × Int)) := [some ((-9223372036854775808), 9223372036854775807), some ((-9223372036854775808), 9223372036854775807), some ((-9223372036854775808), 9223372036854775807), some (0, 18446744073709551615), some (0, 18446744073709551615)]
set_option maxRecDepth 100000 in
theorem r17right_walk : runFn r17right_cx 3000 56 Try.f56 r17right_sp.args r17right_ivs = r17right_tree := by kernel_rfl
noncomputable def r17right_M : Nat → SpecSem
  | _ => noSem
theorem r17right_cxok : CxOK Try.prog r17right_cx r17right_M := ⟨tysOK, fnsOK, fun _ _ h => spNil h, mixedOK, fun _ _ h => trNil h⟩

def r17right_sem : SpecSem := { pre := fun cs => match cs with | [.i c, .i d, .i e, .i h, .i l] => IsI c ∧ IsI d ∧ IsI e ∧ IsU h ∧ IsU l | _ => False, out := fun cs => match cs with | [.i c, .i d, .i e, .i h, .i l] => [.b (decide (ptOK c d e h))] | _ => [] }
set_option maxRecDepth 10000 in
set_option maxHeartbeats 16000000 in
theorem r17right_ok : SpecOK Try.prog 56 r17right_sp r17right_sem := by
  refine spec_of_tree r17right_cxok Try.func56 (by kernel_rfl) (by kernel_rfl) r17right_walk rfl ?_
  intro cs hpre
  match cs, hpre with
  | [.i c, .i d, .i e, .i h, .i l], ⟨j_c, j_d, j_e, j_h, j_l⟩ =>
    have h_c := j_c
    unfold IsI at h_c
    have h_d := j_d
    unfold IsI at h_d
    have h_e := j_e
    unfold IsI at h_e
    have h_h := j_h
    unfold IsU at h_h
    have h_l := j_l
    unfold IsU at h_l
    refine ⟨rfl, IvsB.ok (by simp only [r17right_ivs, IvsB, Cv.int, and_true] <;> omega), ?_, ?_⟩
    · simp only [r17right_sem, r17right_sp, Fits]
    · simp only [r17right_sem, r17right_sp, r17right_tree, Tree.den, LE.den, Cv.list, placeA, List.getElem?_cons_zero, List.getElem?_cons_succ, IE.den, BE.den, At.den, CA.den, Env.get, Cv.int, Cv.bool, List.cons_append, List.nil_append, List.map_cons, List.map_nil, bindRes, bindEq, Fits, SV.den, denL, place, placeL, eq_t, eq_f, lt_t, lt_f, le_t, le_f, beq_iff_eq, beq_eq_false_iff_ne, ne_eq, reduceCtorEq, b_dec, decide_eq_true_eq, decide_eq_false_iff_not, Bool.not_eq_false', Bool.or_eq_true, Bool.or_eq_false_iff, Bool.and_eq_false_iff, true_iff, false_iff, Bool.false_eq_true, Bool.not_eq_true', Bool.and_eq_true, Bool.not_true, Bool.not_false, List.cons.injEq, Cv.i.injEq, Cv.b.injEq, and_true, true_and, agg_inj, tup_inj, Value.int.injEq, Value.bool.injEq]
      simp only [ptOK]
      (repeat' (first | intro _ | refine And.intro ?_ ?_ | exact trivial)) <;> omega
theorem div_i {x d : Int} (hd : 1 ≤ d) (hx : IsI x) : IsI (dnZ x d) ∧ IsI (upD x d) := by
  unfold IsI at hx
  have e1 : dnZ x d = x / d := by rw [dnZ_eq, if_neg (by omega)]; unfold absZ; rw [if_neg (by omega)]
  have e2 : upD x d = -(-x / d) := by rw [upD_eq, if_neg (by omega)]; unfold absZ; rw [if_neg (by omega)]
  have a1 : ∀ y : Int, 0 ≤ y → 0 ≤ y / d ∧ y / d ≤ y := fun y hy => ⟨Int.ediv_nonneg hy (by omega), Int.ediv_le_self _ hy⟩
  have a2 : ∀ y : Int, y < 0 → y ≤ y / d ∧ y / d < 0 := fun y hy => by
    refine ⟨?_, Int.ediv_neg_of_neg_of_pos hy (by omega)⟩
    rw [Int.le_ediv_iff_mul_le (by omega)]
    have : y * d ≤ y * 1 := Int.mul_le_mul_of_nonpos_left (by omega) hd
    omega
  rw [e1, e2]
  unfold IsI
  constructor
  · by_cases h0 : 0 ≤ x
    · have := a1 x h0; omega
    · have := a2 x (by omega); omega
  · by_cases h0 : 0 ≤ -x
    · have := a1 (-x) h0; omega
    · have := a2 (-x) (by omega); omega
/-- a point and a scale that may be -/
def drOK (c d e h s : Int) : Prop := ptOK c d e h ∧ (1 ≤ s ∧ s ≤ 1000)
instance decDr (c d e h s : Int) : Decidable (drOK c d e h s) := by unfold drOK; exact inferInstance
def allZ (h l s : Int) : Int := val h l * (9 * s * s)
theorem allZ_rng {h l s : Int} (hh : 0 ≤ h ∧ h < 274877906944) (hl : 0 ≤ l ∧ l ≤ 18446744073709551615) (hs : 1 ≤ s ∧ s ≤ 1000) : (0 ≤ allZ h l s ∧ allZ h l s ≤ 45635421608216258453881315393536000000) ∧ (0 ≤ 9 * s * s ∧ 9 * s * s ≤ 9000000) := by
  have h1 : 0 ≤ val h l ∧ val h l ≤ 5070602400912917605986812821504 := by unfold val; omega
  have h2 : s * s ≤ 1000 * 1000 := Int.mul_le_mul hs.2 hs.2 (by omega) (by omega)
  have h3 : 0 ≤ s * s := Int.mul_nonneg (by omega) (by omega)
  have e : 9 * s * s = 9 * (s * s) := Int.mul_assoc ..
  have h4 : 0 ≤ 9 * s * s ∧ 9 * s * s ≤ 9000000 := by omega
  refine ⟨?_, h4⟩
  unfold allZ
  have h5 := Int.mul_le_mul (a := val h l) (b := 9 * s * s) (c := 5070602400912917605986812821504) (d := 9000000) h1.2 h4.2 h4.1 (by omega)
  have h6 := Int.mul_nonneg h1.1 h4.1
  omega
theorem root_68 {v : Int} (h0 : 0 ≤ v) (h : v ≤ 45635421608216258453881315393536000000) : (0 ≤ rootZ v ∧ rootZ v < 6800000000000000000) ∧ (rootZ v ≤ upZ v ∧ upZ v ≤ rootZ v + 1 ∧ upZ v ≤ 6800000000000000000) := by
  obtain ⟨r0, r1, r2⟩ := rootZ_spec h0
  have h1 : rootZ v < 6800000000000000000 := by
    by_cases hc : 6800000000000000000 ≤ rootZ v
    · have := Int.mul_le_mul (a := 6800000000000000000) (b := 6800000000000000000) (c := rootZ v) (d := rootZ v) hc hc (by omega) (by omega)
      omega
    · omega
  refine ⟨⟨r0, h1⟩, ?_⟩
  unfold upZ
  split <;> omega
theorem vq' (x : Int) : val (x / 18446744073709551616) (x % 18446744073709551616) = x := by unfold val; omega
theorem vq2' {x : Int} (h0 : 0 ≤ x) (h1 : x < 340282366920938463463374607431768211456) : val (x / 18446744073709551616 % 18446744073709551616) (x % 18446744073709551616) = x := by unfold val; omega
theorem cs_rng {c s : Int} {K : Int} (h1 : -K ≤ c) (h2 : c ≤ K) (hs : 1 ≤ s ∧ s ≤ 1000) (hK : 0 ≤ K) : -(K * 1000) ≤ c * s ∧ c * s ≤ K * 1000 := by
  have a1 : c * s ≤ K * s := Int.mul_le_mul_of_nonneg_right h2 (by omega)
  have a2 : K * s ≤ K * 1000 := Int.mul_le_mul_of_nonneg_left hs.2 hK
  have a3 : -K * s ≤ c * s := Int.mul_le_mul_of_nonneg_right h1 (by omega)
  rw [Int.neg_mul] at a3
  omega
/-- the numbers of a drawing fit -/
theorem dr_nums {c d e h l s : Int} (hr : drOK c d e h s) (hh : 0 ≤ h) (hl : 0 ≤ l ∧ l ≤ 18446744073709551615) :
    (0 ≤ allZ h l s ∧ allZ h l s < 340282366920938463463374607431768211456) ∧ (0 ≤ 9 * s * s ∧ 9 * s * s ≤ 9000000) ∧ ((0 ≤ rootZ (allZ h l s) ∧ rootZ (allZ h l s) ≤ upZ (allZ h l s)) ∧ upZ (allZ h l s) ≤ 6800000000000000000) ∧ (-100000000000000000 ≤ c * s ∧ c * s ≤ 100000000000000000) ∧ (-200000000000000000 ≤ (c + e) * s ∧ (c + e) * s ≤ 200000000000000000) := by
  obtain ⟨⟨⟨d1, d2⟩, ⟨c1, c2⟩, ⟨e1, e2⟩, v1⟩, hs⟩ := hr
  obtain ⟨⟨a1, a2⟩, a3⟩ := allZ_rng (h := h) (l := l) (s := s) ⟨hh, v1⟩ hl hs
  obtain ⟨⟨b1, b2⟩, b3, b4, b5⟩ := root_68 a1 a2
  have c3 := cs_rng (c := c) (s := s) (K := 100000000000000) (by omega) c2 hs (by omega)
  have c4 := cs_rng (c := c + e) (s := s) (K := 200000000000000) (by omega) (by omega) hs (by omega)
  refine ⟨⟨a1, by omega⟩, a3, ⟨⟨b1, b3⟩, b5⟩, by omega, by omega⟩
def ldraw_sp : SpecSh := { args := [(.agg [(.int .i64 (.z 0)), (.int .i64 (.z 0)), (.int .i64 (.z 0)), (.int .u64 (.z 0)), (.int .u64 (.z 0))]), (.int .i64 (.z 0))], res := (.tup [(.agg [(.int .i64 (.z 0)), (.int .i64 (.z 0)), (.int .i64 (.z 0)), (.int .i64 (.z 0)), (.int .i64 (.z 0)), (.int .i64 (.z 0)), (.int .i64 (.z 0)), (.int .i64 (.z 0))]), (.int .i64 (.z 0))]), sh := [.i (some ((-9223372036854775808), 9223372036854775807)), .i (some ((-9223372036854775808), 9223372036854775807)), .i (some ((-9223372036854775808), 9223372036854775807)), .i (some ((-9223372036854775808), 9223372036854775807)), .i (some ((-9223372036854775808), 9223372036854775807)), .i (some ((-9223372036854775808), 9223372036854775807)), .i (some ((-9223372036854775808), 9223372036854775807)), .i (some ((-9223372036854775808), 9223372036854775807)), .i (some ((-9223372036854775808), 9223372036854775807))] }
set_option maxRecDepth 100000 in
def ldraw_tree : Tree :=
.ite (.cmp .le (.z 1) (.v 1)) (.ite (.not (.cmp .lt (.z 100000000000000) (.v 1))) (.ite (.cmp .lt (.v 0) (.z (-100000000000000))) (.ret (.tup [(.agg [(.int .i64 (.z 0)), (.int .i64 (.z 0)), (.int .i64 (.z 0)), (.int .i64 (.z 0)), (.int .i64 (.z 0)), (.int .i64 (.z 0)), (.int .i64 (.z 0)), (.int .i64 (.z 0))]), (.int .i64 (.z 1))])) <|
.ite (.not (.cmp .lt (.z 100000000000000) (.v 0))) (.ite (.cmp .lt (.v 2) (.z (-100000000000000))) (.ret (.tup [(.agg [(.int .i64 (.z 0)), (.int .i64 (.z 0)), (.int .i64 (.z 0)), (.int .i64 (.z 0)), (.int .i64 (.z 0)), (.int .i64 (.z 0)), (.int .i64 (.z 0)), (.int .i64 (.z 0))]), (.int .i64 (.z 1))])) <|
.ite (.not (.cmp .lt (.z 100000000000000) (.v 2))) (.ite (.not (.cmp .lt (.v 3) (.z 274877906944))) (.ret (.tup [(.agg [(.int .i64 (.z 0)), (.int .i64 (.z 0)), (.int .i64 (.z 0)), (.int .i64 (.z 0)), (.int .i64 (.z 0)), (.int .i64 (.z 0)), (.int .i64 (.z 0)), (.int .i64 (.z 0))]), (.int .i64 (.z 1))])) <|
.ite (.cmp .le (.z 1) (.v 5)) (.ite (.not (.cmp .le (.v 5) (.z 1000))) (.ret (.tup [(.agg [(.int .i64 (.z 0)), (.int .i64 (.z 0)), (.int .i64 (.z 0)), (.int .i64 (.z 0)), (.int .i64 (.z 0)), (.int .i64 (.z 0)), (.int .i64 (.z 0)), (.int .i64 (.z 0))]), (.int .i64 (.z 3))])) <|
.lett (.mul (.z 9) (.v 5)) <|
.lett (.mul (.v 6) (.v 5)) <|
.call 84 [.i (some (0, 18446744073709551615)), .i (some (0, 18446744073709551615)), .b] [.i (.v 3), .i (.v 4), .i (.z 0), .i (.v 7)] <|
.call 118 [.i (some (0, 18446744073709551615))] [.i (.v 8), .i (.v 9)] <|
.lett (.wrap .i64 (.v 11)) <|
.call 117 [.i (some (0, 18446744073709551615)), .i (some (0, 18446744073709551615))] [.i (.v 8), .i (.v 9)] <|
.lett (.wrap .i64 (.v 14)) <|
.lett (.mul (.v 0) (.v 5)) <|
.lett (.add (.v 0) (.v 2)) <|
.lett (.mul (.v 17) (.v 5)) <|
.lett (.subw .i64 (.v 16) (.v 15)) <|
.lett (.subw .i64 (.v 16) (.v 12)) <|
.call 49 [.i (some ((-9223372036854775808), 9223372036854775807)), .i (some ((-9223372036854775808), 9223372036854775807))] [.i (.v 19), .i (.z 1), .i (.v 1), .i (.z 0)] <|
.call 49 [.i (some ((-9223372036854775808), 9223372036854775807)), .i (some ((-9223372036854775808), 9223372036854775807))] [.i (.v 20), .i (.z 1), .i (.v 1), .i (.z 1)] <|
.call 49 [.i (some ((-9223372036854775808), 9223372036854775807)), .i (some ((-9223372036854775808), 9223372036854775807))] [.i (.v 16), .i (.z 1), .i (.v 1), .i (.z 0)] <|
.call 49 [.i (some ((-9223372036854775808), 9223372036854775807)), .i (some ((-9223372036854775808), 9223372036854775807))] [.i (.v 16), .i (.z 1), .i (.v 1), .i (.z 1)] <|
.lett (.addw .i64 (.v 16) (.v 12)) <|
.lett (.addw .i64 (.v 16) (.v 15)) <|
.call 49 [.i (some ((-9223372036854775808), 9223372036854775807)), .i (some ((-9223372036854775808), 9223372036854775807))] [.i (.v 29), .i (.z 1), .i (.v 1), .i (.z 0)] <|
.call 49 [.i (some ((-9223372036854775808), 9223372036854775807)), .i (some ((-9223372036854775808), 9223372036854775807))] [.i (.v 30), .i (.z 1), .i (.v 1), .i (.z 1)] <|
.call 49 [.i (some ((-9223372036854775808), 9223372036854775807)), .i (some ((-9223372036854775808), 9223372036854775807))] [.i (.v 18), .i (.z 1), .i (.v 1), .i (.z 0)] <|
.call 49 [.i (some ((-9223372036854775808), 9223372036854775807)), .i (some ((-9223372036854775808), 9223372036854775807))] [.i (.v 18), .i (.z 1), .i (.v 1), .i (.z 1)] <|
.ret (.tup [(.agg [(.int .i64 (.v 21)), (.int .i64 (.v 23)), (.int .i64 (.v 25)), (.int .i64 (.v 27)), (.int .i64 (.v 31)), (.int .i64 (.v 33)), (.int .i64 (.v 35)), (.int .i64 (.v 37))]), (.int .i64 (.z 0))])) <|
.ret (.tup [(.agg [(.int .i64 (.z 0)), (.int .i64 (.z 0)), (.int .i64 (.z 0)), (.int .i64 (.z 0)), (.int .i64 (.z 0)), (.int .i64 (.z 0)), (.int .i64 (.z 0)), (.int .i64 (.z 0))]), (.int .i64 (.z 3))])) <|
.ret (.tup [(.agg [(.int .i64 (.z 0)), (.int .i64 (.z 0)), (.int .i64 (.z 0)), (.int .i64 (.z 0)), (.int .i64 (.z 0)), (.int .i64 (.z 0)), (.int .i64 (.z 0)), (.int .i64 (.z 0))]), (.int .i64 (.z 1))])) <|
.ret (.tup [(.agg [(.int .i64 (.z 0)), (.int .i64 (.z 0)), (.int .i64 (.z 0)), (.int .i64 (.z 0)), (.int .i64 (.z 0)), (.int .i64 (.z 0)), (.int .i64 (.z 0)), (.int .i64 (.z 0))]), (.int .i64 (.z 1))])) <|
.ret (.tup [(.agg [(.int .i64 (.z 0)), (.int .i64 (.z 0)), (.int .i64 (.z 0)), (.int .i64 (.z 0)), (.int .i64 (.z 0)), (.int .i64 (.z 0)), (.int .i64 (.z 0)), (.int .i64 (.z 0))]), (.int .i64 (.z 1))])) <|
.ret (.tup [(.agg [(.int .i64 (.z 0)), (.int .i64 (.z 0)), (.int .i64 (.z 0)), (.int .i64 (.z 0)), (.int .i64 (.z 0)), (.int .i64 (.z 0)), (.int .i64 (.z 0)), (.int .i64 (.z 0))]), (.int .i64 (.z 1))])
noncomputable def ldraw_cx : Ctx := { tys := tys, fns := fns, sps := [(84, times_sp), (118, wroot_sp), (117, wup_sp), (49, fmd_sp)], anns := [], trys := [] }
def ldraw_ivs : List (Option (Int × Int)) := [some ((-9223372036854775808), 9223372036854775807), some ((-9223372036854775808), 9223372036854775807), some ((-9223372036854775808), 9223372036854775807), some (0, 18446744073709551615), some (0, 18446744073709551615), some ((-9223372036854775808), 9223372036854775807)]
set_option maxRecDepth 100000 in
theorem ldraw_walk : runFn ldraw_cx 3000 54 Try.f54 ldraw_sp.args ldraw_ivs = ldraw_tree := by kernel_rfl
noncomputable def ldraw_M : Nat → SpecSem
  | 84 => times_sem
  | 118 => wroot_sem
  | 117 => wup_sem
  | 49 => fmd_sem
  | _ => noSem
theorem ldraw_M84 : ldraw_M 84 = times_sem := rfl
theorem ldraw_M118 : ldraw_M 118 = wroot_sem := rfl
theorem ldraw_M117 : ldraw_M 117 = wup_sem := rfl
theorem ldraw_M49 : ldraw_M 49 = fmd_sem := rfl
theorem ldraw_cxok : CxOK Try.prog ldraw_cx ldraw_M := ⟨tysOK, fnsOK, spCons times_ok <| spCons wroot_ok <| spCons wup_ok <| spCons fmd_ok <| fun _ _ h => spNil h, mixedOK, fun _ _ h => trNil h⟩
set_option maxRecDepth 100000 in
set_option maxHeartbeats 8000000 in
theorem ldraw_den (R RP : Value → Prop) (F : Ex → St → Js → Env → Prop) (J : Js) (x0 : Int) (x1 : Int) (x2 : Int) (x3 : Int) (x4 : Int) (x5 : Int) : Tree.den ldraw_M R RP F ldraw_tree J [(.i x0), (.i x1), (.i x2), (.i x3), (.i x4), (.i x5)] = (
  ((Cmp.den .le (1 : Int) x1) = true → ((!(Cmp.den .lt (100000000000000 : Int) x1)) = true → ((Cmp.den .lt x0 (-100000000000000 : Int)) = true → R (Value.tuple [(Value.agg [(Value.int .i64 (0 : Int)), (Value.int .i64 (0 : Int)), (Value.int .i64 (0 : Int)), (Value.int .i64 (0 : Int)), (Value.int .i64 (0 : Int)), (Value.int .i64 (0 : Int)), (Value.int .i64 (0 : Int)), (Value.int .i64 (0 : Int))].toArray), (Value.int .i64 (1 : Int))].toArray)) ∧ ((Cmp.den .lt x0 (-100000000000000 : Int)) = false → ((!(Cmp.den .lt (100000000000000 : Int) x0)) = true → ((Cmp.den .lt x2 (-100000000000000 : Int)) = true → R (Value.tuple [(Value.agg [(Value.int .i64 (0 : Int)), (Value.int .i64 (0 : Int)), (Value.int .i64 (0 : Int)), (Value.int .i64 (0 : Int)), (Value.int .i64 (0 : Int)), (Value.int .i64 (0 : Int)), (Value.int .i64 (0 : Int)), (Value.int .i64 (0 : Int))].toArray), (Value.int .i64 (1 : Int))].toArray)) ∧ ((Cmp.den .lt x2 (-100000000000000 : Int)) = false → ((!(Cmp.den .lt (100000000000000 : Int) x2)) = true → ((!(Cmp.den .lt x3 (274877906944 : Int))) = true → R (Value.tuple [(Value.agg [(Value.int .i64 (0 : Int)), (Value.int .i64 (0 : Int)), (Value.int .i64 (0 : Int)), (Value.int .i64 (0 : Int)), (Value.int .i64 (0 : Int)), (Value.int .i64 (0 : Int)), (Value.int .i64 (0 : Int)), (Value.int .i64 (0 : Int))].toArray), (Value.int .i64 (1 : Int))].toArray)) ∧ ((!(Cmp.den .lt x3 (274877906944 : Int))) = false → ((Cmp.den .le (1 : Int) x5) = true → ((!(Cmp.den .le x5 (1000 : Int))) = true → R (Value.tuple [(Value.agg [(Value.int .i64 (0 : Int)), (Value.int .i64 (0 : Int)), (Value.int .i64 (0 : Int)), (Value.int .i64 (0 : Int)), (Value.int .i64 (0 : Int)), (Value.int .i64 (0 : Int)), (Value.int .i64 (0 : Int)), (Value.int .i64 (0 : Int))].toArray), (Value.int .i64 (3 : Int))].toArray)) ∧ ((!(Cmp.den .le x5 (1000 : Int))) = false → ∀ x6 : Int, x6 = ((9 : Int) * x5) →
∀ x7 : Int, x7 = (x6 * x5) →
(times_sem.pre [(.i x3), (.i x4), (.i (0 : Int)), (.i x7)]) ∧ (
∀ x8 : Int, x8 = (Cv.int (Env.get (times_sem.out [(.i x3), (.i x4), (.i (0 : Int)), (.i x7)]) 0)) → (0 : Int) ≤ x8 → x8 ≤ (18446744073709551615 : Int) →
∀ x9 : Int, x9 = (Cv.int (Env.get (times_sem.out [(.i x3), (.i x4), (.i (0 : Int)), (.i x7)]) 1)) → (0 : Int) ≤ x9 → x9 ≤ (18446744073709551615 : Int) →
(wroot_sem.pre [(.i x8), (.i x9)]) ∧ (
∀ x11 : Int, x11 = (Cv.int (Env.get (wroot_sem.out [(.i x8), (.i x9)]) 0)) → (0 : Int) ≤ x11 → x11 ≤ (18446744073709551615 : Int) →
∀ x12 : Int, x12 = (IntKind.i64.wrap x11) →
(wup_sem.pre [(.i x8), (.i x9)]) ∧ (
∀ x13 : Int, x13 = (Cv.int (Env.get (wup_sem.out [(.i x8), (.i x9)]) 0)) → (0 : Int) ≤ x13 → x13 ≤ (18446744073709551615 : Int) →
∀ x14 : Int, x14 = (Cv.int (Env.get (wup_sem.out [(.i x8), (.i x9)]) 1)) → (0 : Int) ≤ x14 → x14 ≤ (18446744073709551615 : Int) →
∀ x15 : Int, x15 = (IntKind.i64.wrap x14) →
∀ x16 : Int, x16 = (x0 * x5) →
∀ x17 : Int, x17 = (x0 + x2) →
∀ x18 : Int, x18 = (x17 * x5) →
∀ x19 : Int, x19 = (IntKind.i64.wrap (x16 - x15)) →
∀ x20 : Int, x20 = (IntKind.i64.wrap (x16 - x12)) →
(fmd_sem.pre [(.i x19), (.i (1 : Int)), (.i x1), (.i (0 : Int))]) ∧ (
∀ x21 : Int, x21 = (Cv.int (Env.get (fmd_sem.out [(.i x19), (.i (1 : Int)), (.i x1), (.i (0 : Int))]) 0)) → (-9223372036854775808 : Int) ≤ x21 → x21 ≤ (9223372036854775807 : Int) →
∀ x22 : Int, x22 = (Cv.int (Env.get (fmd_sem.out [(.i x19), (.i (1 : Int)), (.i x1), (.i (0 : Int))]) 1)) → (-9223372036854775808 : Int) ≤ x22 → x22 ≤ (9223372036854775807 : Int) →
(fmd_sem.pre [(.i x20), (.i (1 : Int)), (.i x1), (.i (1 : Int))]) ∧ (
∀ x23 : Int, x23 = (Cv.int (Env.get (fmd_sem.out [(.i x20), (.i (1 : Int)), (.i x1), (.i (1 : Int))]) 0)) → (-9223372036854775808 : Int) ≤ x23 → x23 ≤ (9223372036854775807 : Int) →
∀ x24 : Int, x24 = (Cv.int (Env.get (fmd_sem.out [(.i x20), (.i (1 : Int)), (.i x1), (.i (1 : Int))]) 1)) → (-9223372036854775808 : Int) ≤ x24 → x24 ≤ (9223372036854775807 : Int) →
(fmd_sem.pre [(.i x16), (.i (1 : Int)), (.i x1), (.i (0 : Int))]) ∧ (
∀ x25 : Int, x25 = (Cv.int (Env.get (fmd_sem.out [(.i x16), (.i (1 : Int)), (.i x1), (.i (0 : Int))]) 0)) → (-9223372036854775808 : Int) ≤ x25 → x25 ≤ (9223372036854775807 : Int) →
∀ x26 : Int, x26 = (Cv.int (Env.get (fmd_sem.out [(.i x16), (.i (1 : Int)), (.i x1), (.i (0 : Int))]) 1)) → (-9223372036854775808 : Int) ≤ x26 → x26 ≤ (9223372036854775807 : Int) →
(fmd_sem.pre [(.i x16), (.i (1 : Int)), (.i x1), (.i (1 : Int))]) ∧ (
∀ x27 : Int, x27 = (Cv.int (Env.get (fmd_sem.out [(.i x16), (.i (1 : Int)), (.i x1), (.i (1 : Int))]) 0)) → (-9223372036854775808 : Int) ≤ x27 → x27 ≤ (9223372036854775807 : Int) →
∀ x28 : Int, x28 = (Cv.int (Env.get (fmd_sem.out [(.i x16), (.i (1 : Int)), (.i x1), (.i (1 : Int))]) 1)) → (-9223372036854775808 : Int) ≤ x28 → x28 ≤ (9223372036854775807 : Int) →
∀ x29 : Int, x29 = (IntKind.i64.wrap (x16 + x12)) →
∀ x30 : Int, x30 = (IntKind.i64.wrap (x16 + x15)) →
(fmd_sem.pre [(.i x29), (.i (1 : Int)), (.i x1), (.i (0 : Int))]) ∧ (
∀ x31 : Int, x31 = (Cv.int (Env.get (fmd_sem.out [(.i x29), (.i (1 : Int)), (.i x1), (.i (0 : Int))]) 0)) → (-9223372036854775808 : Int) ≤ x31 → x31 ≤ (9223372036854775807 : Int) →
∀ x32 : Int, x32 = (Cv.int (Env.get (fmd_sem.out [(.i x29), (.i (1 : Int)), (.i x1), (.i (0 : Int))]) 1)) → (-9223372036854775808 : Int) ≤ x32 → x32 ≤ (9223372036854775807 : Int) →
(fmd_sem.pre [(.i x30), (.i (1 : Int)), (.i x1), (.i (1 : Int))]) ∧ (
∀ x33 : Int, x33 = (Cv.int (Env.get (fmd_sem.out [(.i x30), (.i (1 : Int)), (.i x1), (.i (1 : Int))]) 0)) → (-9223372036854775808 : Int) ≤ x33 → x33 ≤ (9223372036854775807 : Int) →
∀ x34 : Int, x34 = (Cv.int (Env.get (fmd_sem.out [(.i x30), (.i (1 : Int)), (.i x1), (.i (1 : Int))]) 1)) → (-9223372036854775808 : Int) ≤ x34 → x34 ≤ (9223372036854775807 : Int) →
(fmd_sem.pre [(.i x18), (.i (1 : Int)), (.i x1), (.i (0 : Int))]) ∧ (
∀ x35 : Int, x35 = (Cv.int (Env.get (fmd_sem.out [(.i x18), (.i (1 : Int)), (.i x1), (.i (0 : Int))]) 0)) → (-9223372036854775808 : Int) ≤ x35 → x35 ≤ (9223372036854775807 : Int) →
∀ x36 : Int, x36 = (Cv.int (Env.get (fmd_sem.out [(.i x18), (.i (1 : Int)), (.i x1), (.i (0 : Int))]) 1)) → (-9223372036854775808 : Int) ≤ x36 → x36 ≤ (9223372036854775807 : Int) →
(fmd_sem.pre [(.i x18), (.i (1 : Int)), (.i x1), (.i (1 : Int))]) ∧ (
∀ x37 : Int, x37 = (Cv.int (Env.get (fmd_sem.out [(.i x18), (.i (1 : Int)), (.i x1), (.i (1 : Int))]) 0)) → (-9223372036854775808 : Int) ≤ x37 → x37 ≤ (9223372036854775807 : Int) →
∀ x38 : Int, x38 = (Cv.int (Env.get (fmd_sem.out [(.i x18), (.i (1 : Int)), (.i x1), (.i (1 : Int))]) 1)) → (-9223372036854775808 : Int) ≤ x38 → x38 ≤ (9223372036854775807 : Int) →
R (Value.tuple [(Value.agg [(Value.int .i64 x21), (Value.int .i64 x23), (Value.int .i64 x25), (Value.int .i64 x27), (Value.int .i64 x31), (Value.int .i64 x33), (Value.int .i64 x35), (Value.int .i64 x37)].toArray), (Value.int .i64 (0 : Int))].toArray)))))))))))))) ∧ ((Cmp.den .le (1 : Int) x5) = false → R (Value.tuple [(Value.agg [(Value.int .i64 (0 : Int)), (Value.int .i64 (0 : Int)), (Value.int .i64 (0 : Int)), (Value.int .i64 (0 : Int)), (Value.int .i64 (0 : Int)), (Value.int .i64 (0 : Int)), (Value.int .i64 (0 : Int)), (Value.int .i64 (0 : Int))].toArray), (Value.int .i64 (3 : Int))].toArray)))) ∧ ((!(Cmp.den .lt (100000000000000 : Int) x2)) = false → R (Value.tuple [(Value.agg [(Value.int .i64 (0 : Int)), (Value.int .i64 (0 : Int)), (Value.int .i64 (0 : Int)), (Value.int .i64 (0 : Int)), (Value.int .i64 (0 : Int)), (Value.int .i64 (0 : Int)), (Value.int .i64 (0 : Int)), (Value.int .i64 (0 : Int))].toArray), (Value.int .i64 (1 : Int))].toArray)))) ∧ ((!(Cmp.den .lt (100000000000000 : Int) x0)) = false → R (Value.tuple [(Value.agg [(Value.int .i64 (0 : Int)), (Value.int .i64 (0 : Int)), (Value.int .i64 (0 : Int)), (Value.int .i64 (0 : Int)), (Value.int .i64 (0 : Int)), (Value.int .i64 (0 : Int)), (Value.int .i64 (0 : Int)), (Value.int .i64 (0 : Int))].toArray), (Value.int .i64 (1 : Int))].toArray)))) ∧ ((!(Cmp.den .lt (100000000000000 : Int) x1)) = false → R (Value.tuple [(Value.agg [(Value.int .i64 (0 : Int)), (Value.int .i64 (0 : Int)), (Value.int .i64 (0 : Int)), (Value.int .i64 (0 : Int)), (Value.int .i64 (0 : Int)), (Value.int .i64 (0 : Int)), (Value.int .i64 (0 : Int)), (Value.int .i64 (0 : Int))].toArray), (Value.int .i64 (1 : Int))].toArray))) ∧ ((Cmp.den .le (1 : Int) x1) = false → R (Value.tuple [(Value.agg [(Value.int .i64 (0 : Int)), (Value.int .i64 (0 : Int)), (Value.int .i64 (0 : Int)), (Value.int .i64 (0 : Int)), (Value.int .i64 (0 : Int)), (Value.int .i64 (0 : Int)), (Value.int .i64 (0 : Int)), (Value.int .i64 (0 : Int))].toArray), (Value.int .i64 (1 : Int))].toArray))) := by kernel_rfl

def ldraw_sem : SpecSem := { pre := fun cs => match cs with | [.i c, .i d, .i e, .i h, .i l, .i s] => IsI c ∧ IsI d ∧ IsI e ∧ IsU h ∧ IsU l ∧ IsI s | _ => False, out := fun cs => match cs with | [.i c, .i d, .i e, .i h, .i l, .i s] => [.i (if drOK c d e h s then dnZ (c * s - upZ (allZ h l s)) d else 0), .i (if drOK c d e h s then upD (c * s - rootZ (allZ h l s)) d else 0), .i (if drOK c d e h s then dnZ (c * s) d else 0), .i (if drOK c d e h s then upD (c * s) d else 0), .i (if drOK c d e h s then dnZ (c * s + rootZ (allZ h l s)) d else 0), .i (if drOK c d e h s then upD (c * s + upZ (allZ h l s)) d else 0), .i (if drOK c d e h s then dnZ ((c + e) * s) d else 0), .i (if drOK c d e h s then upD ((c + e) * s) d else 0), .i (if ptOK c d e h then (if 1 ≤ s ∧ s ≤ 1000 then 0 else 3) else 1)] | _ => [] }
set_option maxRecDepth 10000 in
set_option maxHeartbeats 16000000 in
theorem ldraw_ok : SpecOK Try.prog 54 ldraw_sp ldraw_sem := by
  refine spec_of_tree ldraw_cxok Try.func54 (by kernel_rfl) (by kernel_rfl) ldraw_walk rfl ?_
  intro cs hpre
  match cs, hpre with
  | [.i c, .i d, .i e, .i h, .i l, .i s], ⟨j_c, j_d, j_e, j_h, j_l, j_s⟩ =>
    have h_c := j_c
    unfold IsI at h_c
    have h_d := j_d
    unfold IsI at h_d
    have h_e := j_e
    unfold IsI at h_e
    have h_h := j_h
    unfold IsU at h_h
    have h_l := j_l
    unfold IsU at h_l
    have h_s := j_s
    unfold IsI at h_s
    refine ⟨rfl, IvsB.ok (by simp only [ldraw_ivs, IvsB, Cv.int, and_true] <;> omega), ?_, ?_⟩
    · simp only [ldraw_sem, ldraw_sp, Fits, and_true]
      by_cases hr : drOK c d e h s
      · obtain ⟨a1, a2, ⟨⟨b1, b2⟩, b3⟩, b4, b5⟩ := dr_nums hr h_h.1 h_l
        have d1 := hr.1.1.1
        have q1 := (div_i (x := c * s - upZ (allZ h l s)) d1 ⟨by omega, by omega⟩).1
        have q2 := (div_i (x := c * s - rootZ (allZ h l s)) d1 ⟨by omega, by omega⟩).2
        have q3 := div_i (x := c * s) d1 ⟨by omega, by omega⟩
        have q4 := (div_i (x := c * s + rootZ (allZ h l s)) d1 ⟨by omega, by omega⟩).1
        have q5 := (div_i (x := c * s + upZ (allZ h l s)) d1 ⟨by omega, by omega⟩).2
        have q6 := div_i (x := (c + e) * s) d1 ⟨by omega, by omega⟩
        have hp := hr.1
        have hs := hr.2
        simp only [hr, hp, hs, if_true, if_false, true_and, and_true, false_and, and_false, true_or, or_true, false_or, or_false, true_iff, iff_true, false_iff, iff_false, not_true_eq_false, not_false_eq_true, true_implies, false_implies, implies_true, forall_const, decide_true, decide_false, reduceCtorEq]
        unfold IsI at q1 q2 q3 q4 q5 q6
        refine ⟨q1.1, q1.2, q2.1, q2.2, q3.1.1, q3.1.2, q3.2.1, q3.2.2, q4.1, q4.2, q5.1, q5.2, q6.1.1, q6.1.2, q6.2.1, q6.2.2, by omega⟩
      · simp only [hr, if_true, if_false, true_and, and_true, false_and, and_false, true_or, or_true, false_or, or_false, true_iff, iff_true, false_iff, iff_false, not_true_eq_false, not_false_eq_true, true_implies, false_implies, implies_true, forall_const, decide_true, decide_false, reduceCtorEq]
        split <;> (try split) <;> omega
    · rw [ldraw_den]
      simp only [ldraw_sem, ldraw_sp, ldraw_den, times_sem, wroot_sem, wup_sem, fmd_sem, Tree.den, LE.den, Cv.list, placeA, List.getElem?_cons_zero, List.getElem?_cons_succ, IE.den, BE.den, At.den, CA.den, Env.get, Cv.int, Cv.bool, List.cons_append, List.nil_append, List.map_cons, List.map_nil, bindRes, bindEq, Fits, SV.den, denL, place, placeL, eq_t, eq_f, lt_t, lt_f, le_t, le_f, beq_iff_eq, beq_eq_false_iff_ne, ne_eq, reduceCtorEq, b_dec, decide_eq_true_eq, decide_eq_false_iff_not, Bool.not_eq_false', Bool.or_eq_true, Bool.or_eq_false_iff, Bool.and_eq_false_iff, true_iff, false_iff, Bool.false_eq_true, Bool.not_eq_true', Bool.and_eq_true, Bool.not_true, Bool.not_false, List.cons.injEq, Cv.i.injEq, Cv.b.injEq, and_true, true_and, agg_inj, tup_inj, Value.int.injEq, Value.bool.injEq]
      by_cases hp : ptOK c d e h
      · by_cases hs : 1 ≤ s ∧ s ≤ 1000
        · have hr : drOK c d e h s := ⟨hp, hs⟩
          obtain ⟨⟨d1, d2⟩, ⟨c1, c2⟩, ⟨e1, e2⟩, v1⟩ := id hp
          obtain ⟨a1, a2, ⟨⟨b1, b2⟩, b3⟩, b4, b5⟩ := dr_nums hr h_h.1 h_l
          have dne : d ≠ 0 := by omega
          have n1 : (c < -100000000000000) = False := eq_false (by omega)
          have n2 : (e < -100000000000000) = False := eq_false (by omega)
          have n3 : (274877906944 ≤ h) = False := eq_false (by omega)
          have n4 : (1000 < s) = False := eq_false (by omega)
          have n5 : (s < 1) = False := eq_false (by omega)
          have n6 : (100000000000000 < e) = False := eq_false (by omega)
          have n7 : (100000000000000 < c) = False := eq_false (by omega)
          have n8 : (100000000000000 < d) = False := eq_false (by omega)
          have n9 : (d < 1) = False := eq_false (by omega)
          have n10 : (d < -100000000000000) = False := eq_false (by omega)
          have ea : val h l * (9 * s * s) = allZ h l s := rfl
          have f1 := vq2' a1.1 a1.2
          have f2 : upZ (allZ h l s) % 18446744073709551616 = upZ (allZ h l s) := by omega
          have w1 : IntKind.i64.wrap (rootZ (allZ h l s)) = rootZ (allZ h l s) := w64 (by omega) (by omega)
          have w2 : IntKind.i64.wrap (upZ (allZ h l s)) = upZ (allZ h l s) := w64 (by omega) (by omega)
          have w3 : IntKind.i64.wrap (c * s - upZ (allZ h l s)) = c * s - upZ (allZ h l s) := w64 (by omega) (by omega)
          have w4 : IntKind.i64.wrap (c * s - rootZ (allZ h l s)) = c * s - rootZ (allZ h l s) := w64 (by omega) (by omega)
          have w5 : IntKind.i64.wrap (c * s + rootZ (allZ h l s)) = c * s + rootZ (allZ h l s) := w64 (by omega) (by omega)
          have w6 : IntKind.i64.wrap (c * s + upZ (allZ h l s)) = c * s + upZ (allZ h l s) := w64 (by omega) (by omega)
          have i1 : IsI (c * s - upZ (allZ h l s)) := ⟨by omega, by omega⟩
          have i2 : IsI (c * s - rootZ (allZ h l s)) := ⟨by omega, by omega⟩
          have i3 : IsI (c * s + rootZ (allZ h l s)) := ⟨by omega, by omega⟩
          have i4 : IsI (c * s + upZ (allZ h l s)) := ⟨by omega, by omega⟩
          have i5 : IsI (c * s) := ⟨by omega, by omega⟩
          have i6 : IsI ((c + e) * s) := ⟨by omega, by omega⟩
          have i7 : IsU (9 * s * s) := ⟨by omega, by omega⟩
          have i8 : IsI 0 := ⟨by omega, by omega⟩
          have i9 : IsI 1 := ⟨by omega, by omega⟩
          have i10 : IsU 0 := ⟨by omega, by omega⟩
          have i11 : IsU (allZ h l s / 18446744073709551616 % 18446744073709551616) := ⟨by omega, by omega⟩
          have i12 : IsU (allZ h l s % 18446744073709551616) := ⟨by omega, by omega⟩
          simp only [hp, hr, hs.1, hs.2, d1, d2, c1, c2, e1, e2, v1, n1, n2, n3, n4, n5, n6, n7, n8, n9, n10, val0r, ea, f1, f2, w1, w2, w3, w4, w5, w6, i1, i2, i3, i4, i5, i6, i7, i8, i9, i10, i11, i12, j_c, j_d, j_e, j_h, j_l, j_s, mdV0 dne, mdV1 dne, (div_i d1 i1).1, (div_i d1 i2).2, (div_i d1 i3).1, (div_i d1 i4).2, (div_i d1 i5).1, (div_i d1 i5).2, (div_i d1 i6).1, (div_i d1 i6).2, forall_eq, if_true, if_false, true_and, and_true, false_and, and_false, true_or, or_true, false_or, or_false, true_iff, iff_true, false_iff, iff_false, not_true_eq_false, not_false_eq_true, true_implies, false_implies, implies_true, forall_const, decide_true, decide_false, reduceCtorEq]
        · have hr : ¬ drOK c d e h s := fun k => hs k.2
          obtain ⟨⟨d1, d2⟩, ⟨c1, c2⟩, ⟨e1, e2⟩, v1⟩ := id hp
          simp only [hp, hr, hs, if_true, if_false, true_and, and_true, false_and, and_false, true_or, or_true, false_or, or_false, true_iff, iff_true, false_iff, iff_false, not_true_eq_false, not_false_eq_true, true_implies, false_implies, implies_true, forall_const, decide_true, decide_false, reduceCtorEq]
          (repeat' (first | intro _ | refine And.intro ?_ ?_ | exact trivial)) <;> omega
      · have hr : ¬ drOK c d e h s := fun k => hp k.1
        simp only [hp, hr, if_true, if_false, true_and, and_true, false_and, and_false, true_or, or_true, false_or, or_false, true_iff, iff_true, false_iff, iff_false, not_true_eq_false, not_false_eq_true, true_implies, false_implies, implies_true, forall_const, decide_true, decide_false, reduceCtorEq]
        unfold ptOK at hp
        (repeat' (first | intro _ | refine And.intro ?_ ?_ | exact trivial)) <;> omega
def r17draw_sp : SpecSh := { args := [(.agg [(.int .i64 (.z 0)), (.int .i64 (.z 0)), (.int .i64 (.z 0)), (.int .u64 (.z 0)), (.int .u64 (.z 0))]), (.int .i64 (.z 0))], res := (.agg [(.int .i64 (.z 0)), (.int .i64 (.z 0)), (.int .i64 (.z 0)), (.int .i64 (.z 0)), (.int .i64 (.z 0)), (.int .i64 (.z 0)), (.int .i64 (.z 0)), (.int .i64 (.z 0))]), sh := [.i (some ((-9223372036854775808), 9223372036854775807)), .i (some ((-9223372036854775808), 9223372036854775807)), .i (some ((-9223372036854775808), 9223372036854775807)), .i (some ((-9223372036854775808), 9223372036854775807)), .i (some ((-9223372036854775808), 9223372036854775807)), .i (some ((-9223372036854775808), 9223372036854775807)), .i (some ((-9223372036854775808), 9223372036854775807)), .i (some ((-9223372036854775808), 9223372036854775807))] }
set_option maxRecDepth 100000 in
def r17draw_tree : Tree :=
.lett (.mulw .i64 (.z 9) (.v 5)) <|
.lett (.mulw .i64 (.v 6) (.v 5)) <|
.lett (.wrap .u64 (.v 7)) <|
.call 128 [.i (some (0, 18446744073709551615)), .i (some (0, 18446744073709551615)), .b] [.i (.v 3), .i (.v 4), .i (.z 0), .i (.v 8)] <|
.call 119 [.i (some (0, 18446744073709551615))] [.i (.v 9), .i (.v 10)] <|
.lett (.wrap .i64 (.v 12)) <|
.call 120 [.i (some (0, 18446744073709551615)), .i (some (0, 18446744073709551615))] [.i (.v 9), .i (.v 10)] <|
.lett (.wrap .i64 (.v 15)) <|
.lett (.mulw .i64 (.v 0) (.v 5)) <|
.lett (.addw .i64 (.v 0) (.v 2)) <|
.lett (.mulw .i64 (.v 18) (.v 5)) <|
.lett (.subw .i64 (.v 17) (.v 16)) <|
.lett (.subw .i64 (.v 17) (.v 13)) <|
.lett (.addw .i64 (.v 17) (.v 13)) <|
.lett (.addw .i64 (.v 17) (.v 16)) <|
.call 123 [.i (some ((-9223372036854775808), 9223372036854775807)), .i (some ((-9223372036854775808), 9223372036854775807))] [.i (.v 20), .i (.z 1), .i (.v 1), .i (.z 0)] <|
.call 123 [.i (some ((-9223372036854775808), 9223372036854775807)), .i (some ((-9223372036854775808), 9223372036854775807))] [.i (.v 21), .i (.z 1), .i (.v 1), .i (.z 1)] <|
.call 123 [.i (some ((-9223372036854775808), 9223372036854775807)), .i (some ((-9223372036854775808), 9223372036854775807))] [.i (.v 17), .i (.z 1), .i (.v 1), .i (.z 0)] <|
.call 123 [.i (some ((-9223372036854775808), 9223372036854775807)), .i (some ((-9223372036854775808), 9223372036854775807))] [.i (.v 17), .i (.z 1), .i (.v 1), .i (.z 1)] <|
.call 123 [.i (some ((-9223372036854775808), 9223372036854775807)), .i (some ((-9223372036854775808), 9223372036854775807))] [.i (.v 22), .i (.z 1), .i (.v 1), .i (.z 0)] <|
.call 123 [.i (some ((-9223372036854775808), 9223372036854775807)), .i (some ((-9223372036854775808), 9223372036854775807))] [.i (.v 23), .i (.z 1), .i (.v 1), .i (.z 1)] <|
.call 123 [.i (some ((-9223372036854775808), 9223372036854775807)), .i (some ((-9223372036854775808), 9223372036854775807))] [.i (.v 19), .i (.z 1), .i (.v 1), .i (.z 0)] <|
.call 123 [.i (some ((-9223372036854775808), 9223372036854775807)), .i (some ((-9223372036854775808), 9223372036854775807))] [.i (.v 19), .i (.z 1), .i (.v 1), .i (.z 1)] <|
.ret (.agg [(.int .i64 (.v 24)), (.int .i64 (.v 26)), (.int .i64 (.v 28)), (.int .i64 (.v 30)), (.int .i64 (.v 32)), (.int .i64 (.v 34)), (.int .i64 (.v 36)), (.int .i64 (.v 38))])
noncomputable def r17draw_cx : Ctx := { tys := tys, fns := fns, sps := [(128, rtimes_sp), (119, rroot_sp), (120, rup_sp), (123, r4md_sp)], anns := [], trys := [] }
def r17draw_ivs : List (Option (Int × Int)) := [some ((-9223372036854775808), 9223372036854775807), some ((-9223372036854775808), 9223372036854775807), some ((-9223372036854775808), 9223372036854775807), some (0, 18446744073709551615), some (0, 18446744073709551615), some ((-9223372036854775808), 9223372036854775807)]
set_option maxRecDepth 100000 in
theorem r17draw_walk : runFn r17draw_cx 3000 59 Try.f59 r17draw_sp.args r17draw_ivs = r17draw_tree := by kernel_rfl
noncomputable def r17draw_M : Nat → SpecSem
  | 128 => rtimes_sem
  | 119 => rroot_sem
  | 120 => rup_sem
  | 123 => r4md_sem
  | _ => noSem
theorem r17draw_M128 : r17draw_M 128 = rtimes_sem := rfl
theorem r17draw_M119 : r17draw_M 119 = rroot_sem := rfl
theorem r17draw_M120 : r17draw_M 120 = rup_sem := rfl
theorem r17draw_M123 : r17draw_M 123 = r4md_sem := rfl
theorem r17draw_cxok : CxOK Try.prog r17draw_cx r17draw_M := ⟨tysOK, fnsOK, spCons rtimes_ok <| spCons rroot_ok <| spCons rup_ok <| spCons r4md_ok <| fun _ _ h => spNil h, mixedOK, fun _ _ h => trNil h⟩
set_option maxRecDepth 100000 in
set_option maxHeartbeats 8000000 in
theorem r17draw_den (R RP : Value → Prop) (F : Ex → St → Js → Env → Prop) (J : Js) (x0 : Int) (x1 : Int) (x2 : Int) (x3 : Int) (x4 : Int) (x5 : Int) : Tree.den r17draw_M R RP F r17draw_tree J [(.i x0), (.i x1), (.i x2), (.i x3), (.i x4), (.i x5)] = (
  ∀ x6 : Int, x6 = (IntKind.i64.wrap ((9 : Int) * x5)) →
∀ x7 : Int, x7 = (IntKind.i64.wrap (x6 * x5)) →
∀ x8 : Int, x8 = (IntKind.u64.wrap x7) →
(rtimes_sem.pre [(.i x3), (.i x4), (.i (0 : Int)), (.i x8)]) ∧ (
∀ x9 : Int, x9 = (Cv.int (Env.get (rtimes_sem.out [(.i x3), (.i x4), (.i (0 : Int)), (.i x8)]) 0)) → (0 : Int) ≤ x9 → x9 ≤ (18446744073709551615 : Int) →
∀ x10 : Int, x10 = (Cv.int (Env.get (rtimes_sem.out [(.i x3), (.i x4), (.i (0 : Int)), (.i x8)]) 1)) → (0 : Int) ≤ x10 → x10 ≤ (18446744073709551615 : Int) →
(rroot_sem.pre [(.i x9), (.i x10)]) ∧ (
∀ x12 : Int, x12 = (Cv.int (Env.get (rroot_sem.out [(.i x9), (.i x10)]) 0)) → (0 : Int) ≤ x12 → x12 ≤ (18446744073709551615 : Int) →
∀ x13 : Int, x13 = (IntKind.i64.wrap x12) →
(rup_sem.pre [(.i x9), (.i x10)]) ∧ (
∀ x14 : Int, x14 = (Cv.int (Env.get (rup_sem.out [(.i x9), (.i x10)]) 0)) → (0 : Int) ≤ x14 → x14 ≤ (18446744073709551615 : Int) →
∀ x15 : Int, x15 = (Cv.int (Env.get (rup_sem.out [(.i x9), (.i x10)]) 1)) → (0 : Int) ≤ x15 → x15 ≤ (18446744073709551615 : Int) →
∀ x16 : Int, x16 = (IntKind.i64.wrap x15) →
∀ x17 : Int, x17 = (IntKind.i64.wrap (x0 * x5)) →
∀ x18 : Int, x18 = (IntKind.i64.wrap (x0 + x2)) →
∀ x19 : Int, x19 = (IntKind.i64.wrap (x18 * x5)) →
∀ x20 : Int, x20 = (IntKind.i64.wrap (x17 - x16)) →
∀ x21 : Int, x21 = (IntKind.i64.wrap (x17 - x13)) →
∀ x22 : Int, x22 = (IntKind.i64.wrap (x17 + x13)) →
∀ x23 : Int, x23 = (IntKind.i64.wrap (x17 + x16)) →
(r4md_sem.pre [(.i x20), (.i (1 : Int)), (.i x1), (.i (0 : Int))]) ∧ (
∀ x24 : Int, x24 = (Cv.int (Env.get (r4md_sem.out [(.i x20), (.i (1 : Int)), (.i x1), (.i (0 : Int))]) 0)) → (-9223372036854775808 : Int) ≤ x24 → x24 ≤ (9223372036854775807 : Int) →
∀ x25 : Int, x25 = (Cv.int (Env.get (r4md_sem.out [(.i x20), (.i (1 : Int)), (.i x1), (.i (0 : Int))]) 1)) → (-9223372036854775808 : Int) ≤ x25 → x25 ≤ (9223372036854775807 : Int) →
(r4md_sem.pre [(.i x21), (.i (1 : Int)), (.i x1), (.i (1 : Int))]) ∧ (
∀ x26 : Int, x26 = (Cv.int (Env.get (r4md_sem.out [(.i x21), (.i (1 : Int)), (.i x1), (.i (1 : Int))]) 0)) → (-9223372036854775808 : Int) ≤ x26 → x26 ≤ (9223372036854775807 : Int) →
∀ x27 : Int, x27 = (Cv.int (Env.get (r4md_sem.out [(.i x21), (.i (1 : Int)), (.i x1), (.i (1 : Int))]) 1)) → (-9223372036854775808 : Int) ≤ x27 → x27 ≤ (9223372036854775807 : Int) →
(r4md_sem.pre [(.i x17), (.i (1 : Int)), (.i x1), (.i (0 : Int))]) ∧ (
∀ x28 : Int, x28 = (Cv.int (Env.get (r4md_sem.out [(.i x17), (.i (1 : Int)), (.i x1), (.i (0 : Int))]) 0)) → (-9223372036854775808 : Int) ≤ x28 → x28 ≤ (9223372036854775807 : Int) →
∀ x29 : Int, x29 = (Cv.int (Env.get (r4md_sem.out [(.i x17), (.i (1 : Int)), (.i x1), (.i (0 : Int))]) 1)) → (-9223372036854775808 : Int) ≤ x29 → x29 ≤ (9223372036854775807 : Int) →
(r4md_sem.pre [(.i x17), (.i (1 : Int)), (.i x1), (.i (1 : Int))]) ∧ (
∀ x30 : Int, x30 = (Cv.int (Env.get (r4md_sem.out [(.i x17), (.i (1 : Int)), (.i x1), (.i (1 : Int))]) 0)) → (-9223372036854775808 : Int) ≤ x30 → x30 ≤ (9223372036854775807 : Int) →
∀ x31 : Int, x31 = (Cv.int (Env.get (r4md_sem.out [(.i x17), (.i (1 : Int)), (.i x1), (.i (1 : Int))]) 1)) → (-9223372036854775808 : Int) ≤ x31 → x31 ≤ (9223372036854775807 : Int) →
(r4md_sem.pre [(.i x22), (.i (1 : Int)), (.i x1), (.i (0 : Int))]) ∧ (
∀ x32 : Int, x32 = (Cv.int (Env.get (r4md_sem.out [(.i x22), (.i (1 : Int)), (.i x1), (.i (0 : Int))]) 0)) → (-9223372036854775808 : Int) ≤ x32 → x32 ≤ (9223372036854775807 : Int) →
∀ x33 : Int, x33 = (Cv.int (Env.get (r4md_sem.out [(.i x22), (.i (1 : Int)), (.i x1), (.i (0 : Int))]) 1)) → (-9223372036854775808 : Int) ≤ x33 → x33 ≤ (9223372036854775807 : Int) →
(r4md_sem.pre [(.i x23), (.i (1 : Int)), (.i x1), (.i (1 : Int))]) ∧ (
∀ x34 : Int, x34 = (Cv.int (Env.get (r4md_sem.out [(.i x23), (.i (1 : Int)), (.i x1), (.i (1 : Int))]) 0)) → (-9223372036854775808 : Int) ≤ x34 → x34 ≤ (9223372036854775807 : Int) →
∀ x35 : Int, x35 = (Cv.int (Env.get (r4md_sem.out [(.i x23), (.i (1 : Int)), (.i x1), (.i (1 : Int))]) 1)) → (-9223372036854775808 : Int) ≤ x35 → x35 ≤ (9223372036854775807 : Int) →
(r4md_sem.pre [(.i x19), (.i (1 : Int)), (.i x1), (.i (0 : Int))]) ∧ (
∀ x36 : Int, x36 = (Cv.int (Env.get (r4md_sem.out [(.i x19), (.i (1 : Int)), (.i x1), (.i (0 : Int))]) 0)) → (-9223372036854775808 : Int) ≤ x36 → x36 ≤ (9223372036854775807 : Int) →
∀ x37 : Int, x37 = (Cv.int (Env.get (r4md_sem.out [(.i x19), (.i (1 : Int)), (.i x1), (.i (0 : Int))]) 1)) → (-9223372036854775808 : Int) ≤ x37 → x37 ≤ (9223372036854775807 : Int) →
(r4md_sem.pre [(.i x19), (.i (1 : Int)), (.i x1), (.i (1 : Int))]) ∧ (
∀ x38 : Int, x38 = (Cv.int (Env.get (r4md_sem.out [(.i x19), (.i (1 : Int)), (.i x1), (.i (1 : Int))]) 0)) → (-9223372036854775808 : Int) ≤ x38 → x38 ≤ (9223372036854775807 : Int) →
∀ x39 : Int, x39 = (Cv.int (Env.get (r4md_sem.out [(.i x19), (.i (1 : Int)), (.i x1), (.i (1 : Int))]) 1)) → (-9223372036854775808 : Int) ≤ x39 → x39 ≤ (9223372036854775807 : Int) →
R (Value.agg [(Value.int .i64 x24), (Value.int .i64 x26), (Value.int .i64 x28), (Value.int .i64 x30), (Value.int .i64 x32), (Value.int .i64 x34), (Value.int .i64 x36), (Value.int .i64 x38)].toArray))))))))))))) := by kernel_rfl

def r17draw_sem : SpecSem := { pre := fun cs => match cs with | [.i c, .i d, .i e, .i h, .i l, .i s] => IsI c ∧ IsI d ∧ IsI e ∧ IsU h ∧ IsU l ∧ IsI s ∧ (drOK c d e h s) | _ => False, out := fun cs => match cs with | [.i c, .i d, .i e, .i h, .i l, .i s] => [.i (dnZ (c * s - upZ (allZ h l s)) d), .i (upD (c * s - rootZ (allZ h l s)) d), .i (dnZ (c * s) d), .i (upD (c * s) d), .i (dnZ (c * s + rootZ (allZ h l s)) d), .i (upD (c * s + upZ (allZ h l s)) d), .i (dnZ ((c + e) * s) d), .i (upD ((c + e) * s) d)] | _ => [] }
set_option maxRecDepth 10000 in
set_option maxHeartbeats 16000000 in
theorem r17draw_ok : SpecOK Try.prog 59 r17draw_sp r17draw_sem := by
  refine spec_of_tree r17draw_cxok Try.func59 (by kernel_rfl) (by kernel_rfl) r17draw_walk rfl ?_
  intro cs hpre
  match cs, hpre with
  | [.i c, .i d, .i e, .i h, .i l, .i s], ⟨j_c, j_d, j_e, j_h, j_l, j_s, hx⟩ =>
    have h_c := j_c
    unfold IsI at h_c
    have h_d := j_d
    unfold IsI at h_d
    have h_e := j_e
    unfold IsI at h_e
    have h_h := j_h
    unfold IsU at h_h
    have h_l := j_l
    unfold IsU at h_l
    have h_s := j_s
    unfold IsI at h_s
    refine ⟨rfl, IvsB.ok (by simp only [r17draw_ivs, IvsB, Cv.int, and_true] <;> omega), ?_, ?_⟩
    · simp only [r17draw_sem, r17draw_sp, Fits, and_true]
      obtain ⟨a1, a2, ⟨⟨b1, b2⟩, b3⟩, b4, b5⟩ := dr_nums hx h_h.1 h_l
      have d1 := hx.1.1.1
      have q1 := (div_i (x := c * s - upZ (allZ h l s)) d1 ⟨by omega, by omega⟩).1
      have q2 := (div_i (x := c * s - rootZ (allZ h l s)) d1 ⟨by omega, by omega⟩).2
      have q3 := div_i (x := c * s) d1 ⟨by omega, by omega⟩
      have q4 := (div_i (x := c * s + rootZ (allZ h l s)) d1 ⟨by omega, by omega⟩).1
      have q5 := (div_i (x := c * s + upZ (allZ h l s)) d1 ⟨by omega, by omega⟩).2
      have q6 := div_i (x := (c + e) * s) d1 ⟨by omega, by omega⟩
      unfold IsI at q1 q2 q3 q4 q5 q6
      exact ⟨q1.1, q1.2, q2.1, q2.2, q3.1.1, q3.1.2, q3.2.1, q3.2.2, q4.1, q4.2, q5.1, q5.2, q6.1.1, q6.1.2, q6.2.1, q6.2.2⟩
    · rw [r17draw_den]
      obtain ⟨⟨⟨d1, d2⟩, ⟨c1, c2⟩, ⟨e1, e2⟩, v1⟩, hs⟩ := id hx
      obtain ⟨a1, a2, ⟨⟨b1, b2⟩, b3⟩, b4, b5⟩ := dr_nums hx h_h.1 h_l
      have dne : d ≠ 0 := by omega
      have m0 : ∀ x y : Int, mdZ x 1 y 0 = dnZ x y := fun _ _ => rfl
      have m1 : ∀ x y : Int, mdZ x 1 y 1 = upD x y := fun _ _ => rfl
      have ea : val h l * (9 * s * s) = allZ h l s := rfl
      have f1 := vq2' a1.1 a1.2
      have f2 : upZ (allZ h l s) % 18446744073709551616 = upZ (allZ h l s) := by omega
      have w1 : IntKind.i64.wrap (rootZ (allZ h l s)) = rootZ (allZ h l s) := w64 (by omega) (by omega)
      have w2 : IntKind.i64.wrap (upZ (allZ h l s)) = upZ (allZ h l s) := w64 (by omega) (by omega)
      have w3 : IntKind.i64.wrap (c * s - upZ (allZ h l s)) = c * s - upZ (allZ h l s) := w64 (by omega) (by omega)
      have w4 : IntKind.i64.wrap (c * s - rootZ (allZ h l s)) = c * s - rootZ (allZ h l s) := w64 (by omega) (by omega)
      have w5 : IntKind.i64.wrap (c * s + rootZ (allZ h l s)) = c * s + rootZ (allZ h l s) := w64 (by omega) (by omega)
      have w6 : IntKind.i64.wrap (c * s + upZ (allZ h l s)) = c * s + upZ (allZ h l s) := w64 (by omega) (by omega)
      have w7 : IntKind.i64.wrap (9 * s) = 9 * s := w64 (by omega) (by omega)
      have w8 : IntKind.i64.wrap (9 * s * s) = 9 * s * s := w64 (by omega) (by omega)
      have w9 : IntKind.u64.wrap (9 * s * s) = 9 * s * s := wu64 (by omega) (by omega)
      have w10 : IntKind.i64.wrap (c * s) = c * s := w64 (by omega) (by omega)
      have w11 : IntKind.i64.wrap (c + e) = c + e := w64 (by omega) (by omega)
      have w12 : IntKind.i64.wrap ((c + e) * s) = (c + e) * s := w64 (by omega) (by omega)
      have i1 : IsI (c * s - upZ (allZ h l s)) := ⟨by omega, by omega⟩
      have i2 : IsI (c * s - rootZ (allZ h l s)) := ⟨by omega, by omega⟩
      have i3 : IsI (c * s + rootZ (allZ h l s)) := ⟨by omega, by omega⟩
      have i4 : IsI (c * s + upZ (allZ h l s)) := ⟨by omega, by omega⟩
      have i5 : IsI (c * s) := ⟨by omega, by omega⟩
      have i6 : IsI ((c + e) * s) := ⟨by omega, by omega⟩
      have i7 : IsU (9 * s * s) := ⟨by omega, by omega⟩
      have i8 : IsI 0 := ⟨by omega, by omega⟩
      have i9 : IsI 1 := ⟨by omega, by omega⟩
      have i10 : IsU 0 := ⟨by omega, by omega⟩
      have i11 : IsU (allZ h l s / 18446744073709551616 % 18446744073709551616) := ⟨by omega, by omega⟩
      have i12 : IsU (allZ h l s % 18446744073709551616) := ⟨by omega, by omega⟩
      simp only [r17draw_sem, r17draw_sp, wup_sem, tell, val0r, ea, f1, f2, w1, w2, w3, w4, w5, w6, w7, w8, w9, w10, w11, w12, i1, i2, i3, i4, i5, i6, i7, i8, i9, i10, i11, i12, j_c, j_d, j_e, j_h, j_l, j_s, m0, m1, dne, ne_eq, Int.reduceLE, (div_i d1 i1).1, (div_i d1 i2).2, (div_i d1 i3).1, (div_i d1 i4).2, (div_i d1 i5).1, (div_i d1 i5).2, (div_i d1 i6).1, (div_i d1 i6).2, forall_eq, if_true, if_false, true_and, and_true, false_and, and_false, true_or, or_true, false_or, or_false, true_iff, iff_true, false_iff, iff_false, not_true_eq_false, not_false_eq_true, true_implies, false_implies, implies_true, forall_const, decide_true, decide_false, reduceCtorEq, r17draw_den, rtimes_sem, rroot_sem, rup_sem, r4md_sem, Tree.den, LE.den, Cv.list, placeA, List.getElem?_cons_zero, List.getElem?_cons_succ, IE.den, BE.den, At.den, CA.den, Env.get, Cv.int, Cv.bool, List.cons_append, List.nil_append, List.map_cons, List.map_nil, bindRes, bindEq, Fits, SV.den, denL, place, placeL, eq_t, eq_f, lt_t, lt_f, le_t, le_f, beq_iff_eq, beq_eq_false_iff_ne, ne_eq, reduceCtorEq, b_dec, decide_eq_true_eq, decide_eq_false_iff_not, Bool.not_eq_false', Bool.or_eq_true, Bool.or_eq_false_iff, Bool.and_eq_false_iff, true_iff, false_iff, Bool.false_eq_true, Bool.not_eq_true', Bool.and_eq_true, Bool.not_true, Bool.not_false, List.cons.injEq, Cv.i.injEq, Cv.b.injEq, and_true, true_and, agg_inj, tup_inj, Value.int.injEq, Value.bool.injEq]
end Go.Proofs.Ytlhmhcjpdpakkaa.X
