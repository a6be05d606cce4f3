/-
  Plain facts on classes (how far a deviation is from the middle), in whole numbers.
-/
import Derived.Test.YtpgoekfmalpcdaaHzone
namespace Go.Proofs.Ytpgoekfmalpcdaa.X
set_option linter.unusedVariables false

theorem sq_mono {a b : Int} (h0 : 0 ≤ a) (h : a ≤ b) : a * a ≤ b * b := Int.mul_le_mul h h h0 (by omega)
theorem sq_mono' {a b : Int} (h0 : b ≤ 0) (h : a ≤ b) : b * b ≤ a * a := by
  have := sq_mono (a := -b) (b := -a) (by omega) (by omega)
  rwa [Int.neg_mul_neg, Int.neg_mul_neg] at this
theorem stepsN_mono {s t v : Int} (h : s ≤ t) (k : Nat) : stepsN s v k ≤ stepsN t v k := by
  induction k with
  | zero => simp [stepsN]
  | succ k ih => simp only [stepsN]; split <;> split <;> omega
theorem stepsN_anti {s u v : Int} (hu : 0 ≤ u) (h : u ≤ v) (k : Nat) : stepsN s v k ≤ stepsN s u k := by
  induction k with
  | zero => simp [stepsN]
  | succ k ih =>
    simp only [stepsN]
    have h1 : 0 ≤ ((k : Int) + 1) * ((k : Int) + 1) := Int.mul_nonneg (by omega) (by omega)
    have h2 : ((k : Int) + 1) * ((k : Int) + 1) * u ≤ ((k : Int) + 1) * ((k : Int) + 1) * v := Int.mul_le_mul_of_nonneg_left h h1
    split <;> split <;> omega
theorem zcls_bd (d v : Int) : -4 ≤ zcls d v ∧ zcls d v ≤ 4 := by
  have := stepsN_le (d * d) v 3
  unfold zcls
  split
  · omega
  · split <;> omega
theorem zcls_zero (d v : Int) : zcls d v = 0 ↔ d = 0 := by
  have := stepsN_le (d * d) v 3
  unfold zcls
  split
  · simp [*]
  · split <;> constructor <;> intro h <;> omega
theorem zcls_pos {d : Int} (v : Int) (h : 0 < d) : zcls d v = 1 + stepsN (d * d) v 3 := by
  unfold zcls; rw [if_neg (by omega), if_neg (by omega)]
theorem zcls_neg {d : Int} (v : Int) (h : d < 0) : zcls d v = -(1 + stepsN (d * d) v 3) := by
  unfold zcls; rw [if_neg (by omega), if_pos h]
theorem zcls_mono {a b : Int} (v : Int) (h : a ≤ b) : zcls a v ≤ zcls b v := by
  have sa := stepsN_le (a * a) v 3
  have sb := stepsN_le (b * b) v 3
  rcases Int.lt_trichotomy a 0 with ha | ha | ha
  · rw [zcls_neg v ha]
    rcases Int.lt_trichotomy b 0 with hb | hb | hb
    · rw [zcls_neg v hb]
      have := stepsN_mono (v := v) (sq_mono' (Int.le_of_lt hb) h) 3
      omega
    · subst hb; have := (zcls_zero 0 v).2 rfl; omega
    · rw [zcls_pos v hb]; omega
  · subst ha
    have := (zcls_zero 0 v).2 rfl
    rcases Int.lt_or_eq_of_le h with hb | hb
    · rw [zcls_pos v hb]; omega
    · rw [← hb]; omega
  · rw [zcls_pos v ha, zcls_pos v (by omega)]
    have := stepsN_mono (v := v) (sq_mono (Int.le_of_lt ha) h) 3
    omega
theorem zcls_anti {b u v : Int} (hb : 0 ≤ b) (hu : 0 ≤ u) (h : u ≤ v) : zcls b v ≤ zcls b u := by
  rcases Int.lt_or_eq_of_le hb with hb | hb
  · rw [zcls_pos v hb, zcls_pos u hb]; have := stepsN_anti (s := b * b) hu h 3; omega
  · subst hb; rw [(zcls_zero 0 v).2 rfl, (zcls_zero 0 u).2 rfl]; omega
theorem zcls_anti' {b u v : Int} (hb : b ≤ 0) (hu : 0 ≤ u) (h : u ≤ v) : zcls b u ≤ zcls b v := by
  rcases Int.lt_or_eq_of_le hb with hb | hb
  · rw [zcls_neg v hb, zcls_neg u hb]; have := stepsN_anti (s := b * b) hu h 3; omega
  · subst hb; rw [(zcls_zero 0 v).2 rfl, (zcls_zero 0 u).2 rfl]; omega
theorem zcls_odd (d v : Int) : zcls (-d) v = -zcls d v := by
  rcases Int.lt_trichotomy d 0 with h | h | h
  · rw [zcls_pos v (by omega), zcls_neg v h, Int.neg_mul_neg]; omega
  · subst h; rw [(zcls_zero 0 v).2 rfl]; exact (zcls_zero _ v).2 (by omega)
  · rw [zcls_neg v (by omega), zcls_pos v h, Int.neg_mul_neg]
end Go.Proofs.Ytpgoekfmalpcdaa.X
