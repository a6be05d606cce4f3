/-
  Spans, as numbers: what lies between ends stays between what is done with them.
-/
import Derived.Test.YtlhmhcjpdpakkaaSxSpanMul
import Derived.Test.YtlhmhcjpdpakkaaSxSpanRoot
namespace Go.Proofs.Ytlhmhcjpdpakkaa.X
open Go Go.SX Go.RowKit
set_option linter.unusedVariables false
set_option linter.unusedSimpArgs false
theorem mul_lin {k y c d : Int} (h1 : c ≤ y) (h2 : y ≤ d) : (k * c ≤ k * y ∧ k * y ≤ k * d) ∨ (k * d ≤ k * y ∧ k * y ≤ k * c) := by
  by_cases hk : 0 ≤ k
  · exact Or.inl ⟨Int.mul_le_mul_of_nonneg_left h1 hk, Int.mul_le_mul_of_nonneg_left h2 hk⟩
  · have hk' : k ≤ 0 := by omega
    exact Or.inr ⟨Int.mul_le_mul_of_nonpos_left hk' h2, Int.mul_le_mul_of_nonpos_left hk' h1⟩
theorem mul_in {a b c d x y : Int} (h1 : a ≤ x) (h2 : x ≤ b) (h3 : c ≤ y) (h4 : y ≤ d) : mn4 (a * c) (a * d) (b * c) (b * d) ≤ x * y ∧ x * y ≤ mx4 (a * c) (a * d) (b * c) (b * d) := by
  obtain ⟨⟨m1, m2, m3, m4⟩, _⟩ := mn4_cases (a * c) (a * d) (b * c) (b * d)
  obtain ⟨⟨k1, k2, k3, k4⟩, _⟩ := mx4_cases (a * c) (a * d) (b * c) (b * d)
  generalize mn4 (a * c) (a * d) (b * c) (b * d) = m at *
  generalize mx4 (a * c) (a * d) (b * c) (b * d) = k at *
  have e1 := mul_lin (k := a) h3 h4
  have e2 := mul_lin (k := b) h3 h4
  have e3 := mul_lin (k := y) h1 h2
  rw [Int.mul_comm y a, Int.mul_comm y x, Int.mul_comm y b] at e3
  rcases e1 with e1 | e1 <;> rcases e2 with e2 | e2 <;> rcases e3 with e3 | e3 <;> omega
/-- both ways of rounding follow the order of the fractions -/
theorem fl_le {n1 m1 n2 m2 : Int} (h1 : 0 < m1) (h2 : 0 < m2) (h : n1 * m2 ≤ n2 * m1) : n1 / m1 ≤ n2 / m2 := by
  rw [Int.le_ediv_iff_mul_le h2]
  have e1 : n1 / m1 * m1 ≤ n1 := Int.ediv_mul_le n1 (by omega)
  have e2 : n1 / m1 * m1 * m2 ≤ n1 * m2 := Int.mul_le_mul_of_nonneg_right e1 (by omega)
  have e3 : n1 / m1 * m2 * m1 ≤ n2 * m1 := by
    have : n1 / m1 * m2 * m1 = n1 / m1 * m1 * m2 := by grind
    omega
  exact Int.le_of_mul_le_mul_right e3 h1
theorem cl_le {n1 m1 n2 m2 : Int} (h1 : 0 < m1) (h2 : 0 < m2) (h : n1 * m2 ≤ n2 * m1) : -(-n1 / m1) ≤ -(-n2 / m2) := by
  have := fl_le (n1 := -n2) (m1 := m2) (n2 := -n1) (m2 := m1) h2 h1 (by rw [Int.neg_mul, Int.neg_mul]; omega)
  omega
/-- among ends beyond nought, some fraction is no more, some no less -/
theorem box_low {a b c d x y : Int} (hc : 0 < c) (h1 : a ≤ x) (h2 : x ≤ b) (h3 : c ≤ y) (h4 : y ≤ d) : a * y ≤ x * c ∨ a * y ≤ x * d := by
  by_cases ha : 0 ≤ a
  · right
    exact Int.mul_le_mul h1 h4 (by omega) (by omega)
  · left
    have e1 : a * y ≤ a * c := Int.mul_le_mul_of_nonpos_left (by omega) h3
    have e2 : a * c ≤ x * c := Int.mul_le_mul_of_nonneg_right h1 (by omega)
    omega
theorem box_high {a b c d x y : Int} (hc : 0 < c) (h1 : a ≤ x) (h2 : x ≤ b) (h3 : c ≤ y) (h4 : y ≤ d) : x * c ≤ b * y ∨ x * d ≤ b * y := by
  have := box_low (a := -b) (b := -a) (x := -x) hc (by omega) (by omega) h3 h4
  rw [Int.neg_mul, Int.neg_mul, Int.neg_mul] at this
  omega
theorem div_in {a b c d x y : Int} (h1 : a ≤ x) (h2 : x ≤ b) (h3 : c ≤ y) (h4 : y ≤ d) (hz : ¬(c ≤ 0 ∧ 0 ≤ d)) : mn4 (dnZ a c) (dnZ a d) (dnZ b c) (dnZ b d) ≤ dnZ x y ∧ upD x y ≤ mx4 (upD a c) (upD a d) (upD b c) (upD b d) := by
  obtain ⟨⟨m1, m2, m3, m4⟩, _⟩ := mn4_cases (dnZ a c) (dnZ a d) (dnZ b c) (dnZ b d)
  obtain ⟨⟨k1, k2, k3, k4⟩, _⟩ := mx4_cases (upD a c) (upD a d) (upD b c) (upD b d)
  generalize mn4 (dnZ a c) (dnZ a d) (dnZ b c) (dnZ b d) = m at *
  generalize mx4 (upD a c) (upD a d) (upD b c) (upD b d) = k at *
  simp only [dnZ_eq, upD_eq] at *
  by_cases hc : 0 < c
  · have f : ∀ t : Int, c ≤ t → (¬t < 0) ∧ absZ t = t := fun t ht => ⟨by omega, by unfold absZ; split <;> omega⟩
    obtain ⟨c1, c2⟩ := f c (by omega)
    obtain ⟨d1, d2⟩ := f d (by omega)
    obtain ⟨y1, y2⟩ := f y (by omega)
    simp only [if_neg c1, if_neg d1, if_neg y1, c2, d2, y2] at *
    have hlow := box_low hc h1 h2 h3 h4
    have hhigh := box_high hc h1 h2 h3 h4
    constructor
    · rcases hlow with h | h
      · have := fl_le (n1 := a) (m1 := c) (n2 := x) (m2 := y) hc (by omega) h; omega
      · have := fl_le (n1 := a) (m1 := d) (n2 := x) (m2 := y) (by omega) (by omega) h; omega
    · rcases hhigh with h | h
      · have := cl_le (n1 := x) (m1 := y) (n2 := b) (m2 := c) (by omega) hc h; omega
      · have := cl_le (n1 := x) (m1 := y) (n2 := b) (m2 := d) (by omega) (by omega) h; omega
  · have f : ∀ t : Int, t ≤ d → t < 0 ∧ absZ t = -t := fun t ht => ⟨by omega, by unfold absZ; split <;> omega⟩
    obtain ⟨c1, c2⟩ := f c (by omega)
    obtain ⟨d1, d2⟩ := f d (by omega)
    obtain ⟨y1, y2⟩ := f y (by omega)
    simp only [if_pos c1, if_pos d1, if_pos y1, c2, d2, y2] at *
    have hlow := box_low (a := -b) (b := -a) (c := -d) (d := -c) (x := -x) (y := -y) (by omega) (by omega) (by omega) (by omega) (by omega)
    have hhigh := box_high (a := -b) (b := -a) (c := -d) (d := -c) (x := -x) (y := -y) (by omega) (by omega) (by omega) (by omega) (by omega)
    constructor
    · rcases hlow with h | h
      · have := fl_le (n1 := -b) (m1 := -d) (n2 := -x) (m2 := -y) (by omega) (by omega) h; omega
      · have := fl_le (n1 := -b) (m1 := -c) (n2 := -x) (m2 := -y) (by omega) (by omega) h; omega
    · rcases hhigh with h | h
      · have := cl_le (n1 := -x) (m1 := -y) (n2 := -a) (m2 := -d) (by omega) (by omega) h; omega
      · have := cl_le (n1 := -x) (m1 := -y) (n2 := -a) (m2 := -c) (by omega) (by omega) h; omega
theorem mn4_sub {p q r s m : Int} (h1 : m ≤ p) (h2 : m ≤ q) (h3 : m ≤ r) (h4 : m ≤ s) : m ≤ mn4 p q r s := by
  obtain ⟨_, h | h | h | h⟩ := mn4_cases p q r s <;> omega
theorem mx4_sub {p q r s m : Int} (h1 : p ≤ m) (h2 : q ≤ m) (h3 : r ≤ m) (h4 : s ≤ m) : mx4 p q r s ≤ m := by
  obtain ⟨_, h | h | h | h⟩ := mx4_cases p q r s <;> omega
end Go.Proofs.Ytlhmhcjpdpakkaa.X
