/-
  ZoneRises, the pure statement: the class rises with the deviation and falls, away from 0, with the variance. No condition but that each number is of its kind.
-/
import Derived.Test.YtpgoekfmalpcdaaXx8
import Derived.Test.YtpgoekfmalpcdaaMZone
namespace Go.Proofs.Ytpgoekfmalpcdaa.Pure
open Go.RowKit Go.Proofs.Ytpgoekfmalpcdaa.X Go.Proofs.YtpgoekfmalpcdaaW.PrintWords

theorem wf64 {x : Int} (h : (Lit.int .i64 x).wf = true) : -9223372036854775808 ≤ x ∧ x < 9223372036854775808 := by
  have h1 : IntKind.i64.min = -9223372036854775808 := rfl
  have h2 : IntKind.i64.max = 9223372036854775807 := rfl
  simp only [Lit.wf, Bool.and_eq_true, decide_eq_true_eq] at h; omega
theorem wfu64 {x : Int} (h : (Lit.int .u64 x).wf = true) : 0 ≤ x ∧ x < 18446744073709551616 := by
  have h1 : IntKind.u64.min = 0 := rfl
  have h2 : IntKind.u64.max = 18446744073709551615 := rfl
  simp only [Lit.wf, Bool.and_eq_true, decide_eq_true_eq] at h; omega

theorem class_ok {d a b : Int} (h0 : -9223372036854775808 ≤ d ∧ d < 9223372036854775808) (h1 : 0 ≤ a ∧ a < 1152921504606846976) (h2 : 0 ≤ b ∧ b < 18446744073709551616) :
    zone_Class.f d a b = some (zcls d (a * 18446744073709551616 + b), 0) := by
  unfold zone_Class.f zone_class.f
  rw [if_neg (by omega), if_pos (by simp only [Bool.and_eq_true, i64B_iff, u64B_iff, decide_eq_true_eq]; exact ⟨h0, h1, h2⟩)]
  rfl
theorem class_no {d a b : Int} (h1 : 1152921504606846976 ≤ a) : zone_Class.f d a b = some (0, 1) := by
  unfold zone_Class.f
  rw [if_pos (by omega)]
theorem alive_ok : datumlaw13_alive.f = some true := by decide +kernel
theorem less_ok (a b c d : Int) : wide_Less.f a b c d = some (decide (a < c ∨ a = c ∧ b < d)) := by
  unfold wide_Less.f
  by_cases h1 : a < c
  · rw [if_pos h1]; simp [h1]
  · rw [if_neg h1]
    by_cases h2 : a = c
    · rw [if_pos h2]; subst h2; simp
    · rw [if_neg h2]; simp [h1, h2]

theorem j2_ok (k : Nat) (x a b : Int) (h0 : -9223372036854775808 ≤ x ∧ x < 9223372036854775808) (h1 : 0 ≤ a ∧ a < 1152921504606846976) (h2 : 0 ≤ b ∧ b < 18446744073709551616) :
    datumlaw13_ZoneRises.j2 (k + 1) x false a b = some true := by
  simp only [datumlaw13_ZoneRises.j2]
  have hm : -9223372036854775807 ≤ mx x (-9223372036854775807) ∧ mx x (-9223372036854775807) < 9223372036854775808 := by unfold mx; split <;> omega
  generalize mx x (-9223372036854775807) = m at *
  have hw : wrap64 (-m) = -m := by unfold wrap64; omega
  have hb := zcls_bd m (a * 18446744073709551616 + b)
  have hw2 : wrap64 (-zcls m (a * 18446744073709551616 + b)) = -zcls m (a * 18446744073709551616 + b) := by unfold wrap64; omega
  rw [hw, class_ok (by omega) h1 h2, class_ok (by omega) h1 h2, if_neg (by simp)]
  simp only [Option.bind_some, if_true, hw2, zcls_odd, beq_self_eq_true]

theorem j1_ok (k : Nat) (x y a b c d : Int) (hx : -9223372036854775808 ≤ x ∧ x < 9223372036854775808) (hy : -9223372036854775808 ≤ y ∧ y < 9223372036854775808) (ha : 0 ≤ a ∧ a < 18446744073709551616) (hb : 0 ≤ b ∧ b < 18446744073709551616)
    (hc : 0 ≤ c ∧ c < 18446744073709551616) (hd : 0 ≤ d ∧ d < 18446744073709551616) (hxy : x ≤ y) (hvar : a * 18446744073709551616 + b ≤ c * 18446744073709551616 + d) : datumlaw13_ZoneRises.j1 (k + 2) x y a b c d = some true := by
  simp only [datumlaw13_ZoneRises.j1]
  by_cases h1 : 1152921504606846976 ≤ c
  · rw [class_no h1, class_no h1]
    rcases Int.lt_or_le a 1152921504606846976 with h2 | h2
    · rw [class_ok hy ⟨ha.1, h2⟩ hb]; simp [alive_ok]
    · rw [class_no h2]; simp [alive_ok]
  · have h1' : 0 ≤ c ∧ c < 1152921504606846976 := by omega
    rw [class_ok hx h1' hd, class_ok hy h1' hd, class_ok hy (by omega) hb]
    simp only [Option.bind_some, if_true, alive_ok]
    have m1 := zcls_mono (c * 18446744073709551616 + d) hxy
    have b1 := zcls_bd x (c * 18446744073709551616 + d)
    have b2 := zcls_bd y (c * 18446744073709551616 + d)
    have z := zcls_zero y (c * 18446744073709551616 + d)
    have hz : ((zcls y (c * 18446744073709551616 + d) == 0) != (y == 0)) = false := by
      by_cases e : y = 0
      · simp [e, (zcls_zero 0 _).2 rfl]
      · have : ¬ zcls y (c * 18446744073709551616 + d) = 0 := fun h => e (z.1 h)
        rw [beq_eq_false_iff_ne.2 this, beq_eq_false_iff_ne.2 e]; rfl
    have a1 : 0 ≤ y → zcls y (c * 18446744073709551616 + d) ≤ zcls y (a * 18446744073709551616 + b) := fun h => zcls_anti h (by omega) hvar
    have a2 : y ≤ 0 → zcls y (a * 18446744073709551616 + b) ≤ zcls y (c * 18446744073709551616 + d) := fun h => zcls_anti' h (by omega) hvar
    have j2 := j2_ok k y c d hy h1' hd
    rw [if_neg (by omega), if_neg (by omega), if_neg (by omega), hz]
    simp only [Bool.not_true, Bool.false_eq_true, if_false]
    split
    · rename_i h
      rw [if_neg (by have := a1 h; omega)]
      split
      · rename_i h'
        rw [if_neg (by have := a2 h'; omega)]; exact j2
      · exact j2
    · rename_i h
      rw [if_pos (by omega), if_neg (by have := a2 (by omega); omega)]; exact j2

theorem ZoneRises : ∀ (a0 : Int) (a1 : Int) (a2_0 : Int) (a2_1 : Int) (a3_0 : Int) (a3_1 : Int), (Lit.int .i64 a0).wf = true → (Lit.int .i64 a1).wf = true → (Lit.int .u64 a2_0).wf = true → (Lit.int .u64 a2_1).wf = true → (Lit.int .u64 a3_0).wf = true → (Lit.int .u64 a3_1).wf = true → ∃ k, datumlaw13_ZoneRises.f k a0 a1 a2_0 a2_1 a3_0 a3_1 = some true := by
  intro x y a b c d h0 h1 h2 h3 h4 h5
  replace h0 := wf64 h0; replace h1 := wf64 h1; replace h2 := wfu64 h2; replace h3 := wfu64 h3; replace h4 := wfu64 h4; replace h5 := wfu64 h5
  refine ⟨3, ?_⟩
  have key : ∀ p q : Int, (-9223372036854775808 ≤ p ∧ p < 9223372036854775808) → (-9223372036854775808 ≤ q ∧ q < 9223372036854775808) → p ≤ q → datumlaw13_ZoneRises.j0 3 p q a b c d = some true := by
    intro p q hp hq hpq
    simp only [datumlaw13_ZoneRises.j0, less_ok, Option.bind_some, decide_eq_true_eq]
    split
    · exact j1_ok 0 p q c d a b hp hq h4 h5 h2 h3 hpq (by omega)
    · exact j1_ok 0 p q a b c d hp hq h2 h3 h4 h5 hpq (by omega)
  unfold datumlaw13_ZoneRises.f
  split
  · exact key y x h1 h0 (by omega)
  · exact key x y h0 h1 (by omega)
end Go.Proofs.Ytpgoekfmalpcdaa.Pure
