/-
  Ratios, as numbers: products over sums, signs led by signs.
-/
import Derived.Test.YtlhmhcjpdpakkaaSxRatioNum
namespace Go.Proofs.Ytlhmhcjpdpakkaa.X
open Go Go.SX Go.RowKit
set_option linter.unusedVariables false
set_option linter.unusedSimpArgs false
/-- products are spread over sums -/
theorem rt_dist {a b c d e f p1 p2 q1 q2 n' d' g k h : Int} (g0 : 0 < g) (k0 : 0 < k) (h0 : 0 < h) (e1 : p1 * g = e * a) (e2 : p2 * g = f * b) (e3 : q1 * k = e * c) (e4 : q2 * k = f * d) (e5 : n' * h = a * d + c * b) (e6 : d' * h = b * d) : (p1 * q2 + q1 * p2) * (f * d') = (e * n') * (p2 * q2) := by
  have hp : 0 < g * k * h := Int.mul_pos (Int.mul_pos g0 k0) h0
  refine Int.eq_of_mul_eq_mul_right (show g * k * h ≠ 0 by omega) ?_
  have l : (p1 * q2 + q1 * p2) * (f * d') * (g * k * h) = ((p1 * g) * (q2 * k) + (q1 * k) * (p2 * g)) * (f * (d' * h)) := by grind
  have r : (e * n') * (p2 * q2) * (g * k * h) = e * (n' * h) * ((p2 * g) * (q2 * k)) := by grind
  rw [l, r, e1, e2, e3, e4, e5, e6]
  grind
theorem rt_spread {a b c d e f : Int} (hb : 0 < b) (hd : 0 < d) (hf : 0 < f) :
    rtN (rtN (e * a) (f * b) * rtD (e * c) (f * d) + rtN (e * c) (f * d) * rtD (e * a) (f * b)) (rtD (e * a) (f * b) * rtD (e * c) (f * d)) = rtN (e * rtN (a * d + c * b) (b * d)) (f * rtD (a * d + c * b) (b * d))
    ∧ rtD (rtN (e * a) (f * b) * rtD (e * c) (f * d) + rtN (e * c) (f * d) * rtD (e * a) (f * b)) (rtD (e * a) (f * b) * rtD (e * c) (f * d)) = rtD (e * rtN (a * d + c * b) (b * d)) (f * rtD (a * d + c * b) (b * d)) := by
  obtain ⟨g, g0, g1, g2, g3⟩ := rt_parts (N := e * a) (Int.mul_pos hf hb)
  obtain ⟨k, k0, k1, k2, k3⟩ := rt_parts (N := e * c) (Int.mul_pos hf hd)
  obtain ⟨h, h0, h1, h2, h3⟩ := rt_parts (N := a * d + c * b) (Int.mul_pos hb hd)
  exact rt_uniq (Int.mul_pos g3 k3) (Int.mul_pos hf h3) (rt_dist g0 k0 h0 g1 g2 k1 k2 h1 h2)
/-- one sign is led by two -/
theorem sgn_lead {b d f X Y Z : Int} (hb : 0 < b) (hd : 0 < d) (hf : 0 < f) (h : d * Z = f * X + b * Y) :
    (X < 0 → Y ≤ 0 → Z < 0) ∧ (X ≤ 0 → Y < 0 → Z < 0) ∧ (X = 0 → Y = 0 → Z = 0) ∧ (0 < X → 0 ≤ Y → 0 < Z) ∧ (0 ≤ X → 0 < Y → 0 < Z) := by
  have pX : (X < 0 → f * X < 0) ∧ (X = 0 → f * X = 0) ∧ (0 < X → 0 < f * X) :=
    ⟨fun h => Int.mul_neg_of_pos_of_neg hf h, fun h => by rw [h, Int.mul_zero], fun h => Int.mul_pos hf h⟩
  have pY : (Y < 0 → b * Y < 0) ∧ (Y = 0 → b * Y = 0) ∧ (0 < Y → 0 < b * Y) :=
    ⟨fun h => Int.mul_neg_of_pos_of_neg hb h, fun h => by rw [h, Int.mul_zero], fun h => Int.mul_pos hb h⟩
  have pZ : (Z < 0 → d * Z < 0) ∧ (Z = 0 → d * Z = 0) ∧ (0 < Z → 0 < d * Z) :=
    ⟨fun h => Int.mul_neg_of_pos_of_neg hd h, fun h => by rw [h, Int.mul_zero], fun h => Int.mul_pos hd h⟩
  generalize f * X = x at *
  generalize b * Y = y at *
  generalize d * Z = z at *
  refine ⟨?_, ?_, ?_, ?_, ?_⟩ <;> intro u v <;> omega
theorem cmp_lead {a b c d e f : Int} (hb : 0 < b) (hd : 0 < d) (hf : 0 < f) :
    (cmpZ (a * d) (c * b) = cmpZ (c * f) (e * d) → cmpZ (a * f) (e * b) = cmpZ (a * d) (c * b))
    ∧ (cmpZ (a * d) (c * b) = 0 → cmpZ (a * f) (e * b) = cmpZ (c * f) (e * d))
    ∧ (cmpZ (c * f) (e * d) = 0 → cmpZ (a * f) (e * b) = cmpZ (a * d) (c * b)) := by
  have h := sgn_lead (X := a * d - c * b) (Y := c * f - e * d) (Z := a * f - e * b) hb hd hf (by grind)
  unfold cmpZ
  generalize a * d = p1 at *
  generalize c * b = p2 at *
  generalize c * f = p3 at *
  generalize e * d = p4 at *
  generalize a * f = p5 at *
  generalize e * b = p6 at *
  by_cases c1 : p1 < p2 <;> by_cases c2 : p2 < p1 <;> by_cases c3 : p3 < p4 <;> by_cases c4 : p4 < p3 <;> by_cases c5 : p5 < p6 <;> by_cases c6 : p6 < p5 <;> simp only [c1, c2, c3, c4, c5, c6, if_true, if_false] <;> refine ⟨?_, ?_, ?_⟩ <;> intro u <;> omega
theorem cmp_back (x y : Int) : cmpZ y x = -cmpZ x y := by
  unfold cmpZ; by_cases c1 : x < y <;> by_cases c2 : y < x <;> simp only [c1, c2, if_true, if_false] <;> omega
theorem cmp_rng (x y : Int) : -1 ≤ cmpZ x y ∧ cmpZ x y ≤ 1 := by
  unfold cmpZ; by_cases c1 : x < y <;> by_cases c2 : y < x <;> simp only [c1, c2, if_true, if_false] <;> omega
theorem cmp_zero (x y : Int) : cmpZ x y = 0 ↔ x = y := by
  unfold cmpZ; by_cases c1 : x < y <;> by_cases c2 : y < x <;> simp only [c1, c2, if_true, if_false] <;> constructor <;> intro u <;> first | trivial | omega
theorem cmp_same {a b c d : Int} (hb : 0 < b) (hd : 0 < d) (R1 : rtR a b) (R2 : rtR c d) : cmpZ (a * d) (c * b) = 0 ↔ a = c ∧ b = d := by
  rw [cmp_zero]
  constructor
  · intro h
    exact low_uniq hb hd R1.2 R2.2 h
  · rintro ⟨rfl, rfl⟩; rfl
/-- what is added to both moves neither -/
theorem cmp_sums {a b c d e f : Int} (hb : 0 < b) (hd : 0 < d) (hf : 0 < f) :
    cmpZ (rtN (a * f + e * b) (b * f) * rtD (c * f + e * d) (d * f)) (rtN (c * f + e * d) (d * f) * rtD (a * f + e * b) (b * f)) = cmpZ (a * d) (c * b) := by
  rw [rt_cmp (Int.mul_pos hb hf) (Int.mul_pos hd hf)]
  have hff : 0 < f * f := Int.mul_pos hf hf
  have e0 : (a * f + e * b) * (d * f) - (c * f + e * d) * (b * f) = (a * d - c * b) * (f * f) := by grind
  have k1 : a * d < c * b → (a * d - c * b) * (f * f) < 0 := fun h => Int.mul_neg_of_neg_of_pos (by omega) hff
  have k2 : c * b < a * d → 0 < (a * d - c * b) * (f * f) := fun h => Int.mul_pos (by omega) hff
  have k3 : a * d = c * b → (a * d - c * b) * (f * f) = 0 := fun h => by rw [h, Int.sub_self, Int.zero_mul]
  unfold cmpZ
  generalize (a * d - c * b) * (f * f) = w at *
  generalize (a * f + e * b) * (d * f) = u at *
  generalize (c * f + e * d) * (b * f) = v at *
  generalize a * d = p at *
  generalize c * b = q at *
  by_cases c1 : u < v <;> by_cases c2 : v < u <;> by_cases c3 : p < q <;> by_cases c4 : q < p <;> simp only [c1, c2, c3, c4, if_true, if_false] <;> omega
end Go.Proofs.Ytlhmhcjpdpakkaa.X
