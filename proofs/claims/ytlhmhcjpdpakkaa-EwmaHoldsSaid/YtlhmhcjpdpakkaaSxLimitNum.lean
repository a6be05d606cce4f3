/-
  Lines, as numbers.
-/
import Derived.Test.YtlhmhcjpdpakkaaSxLimit
namespace Go.Proofs.Ytlhmhcjpdpakkaa.X
open Go Go.SX Go.RowKit
set_option linter.unusedVariables false
set_option linter.unusedSimpArgs false
theorem tm_rng {x : Int} {m : Int} (h : 0 < m) : -m < Int.tmod x m ∧ Int.tmod x m < m := by
  have h1 := Int.tmod_lt_of_pos x h
  refine ⟨?_, h1⟩
  have h2 := Int.tmod_lt_of_pos (-x) h
  rw [Int.neg_tmod] at h2
  omega
theorem dn_pos {x d : Int} (h : 1 ≤ d) : dnZ x d = x / d := by rw [dnZ_eq, if_neg (by omega)]; unfold absZ; rw [if_neg (by omega)]
theorem up_pos {x d : Int} (h : 1 ≤ d) : upD x d = -(-x / d) := by rw [upD_eq, if_neg (by omega)]; unfold absZ; rw [if_neg (by omega)]
/-- between which products a number lies -/
theorem dn_spec {x d : Int} (h : 1 ≤ d) : dnZ x d * d ≤ x ∧ x < (dnZ x d + 1) * d := by
  rw [dn_pos h]
  have h1 := Int.ediv_mul_le x (b := d) (by omega)
  have h2 := Int.lt_ediv_add_one_mul_self x (b := d) (by omega)
  exact ⟨h1, h2⟩
theorem up_spec {x d : Int} (h : 1 ≤ d) : (upD x d - 1) * d < x ∧ x ≤ upD x d * d := by
  have e := dn_spec (x := -x) h
  rw [dn_pos h] at e
  rw [up_pos h]
  generalize -x / d = q at *
  rw [Int.add_mul] at e
  rw [Int.sub_mul, Int.neg_mul]
  omega
theorem dn_mono {x y d : Int} (h : 1 ≤ d) (hxy : x ≤ y) : dnZ x d ≤ dnZ y d := by
  rw [dn_pos h, dn_pos h]; exact Int.ediv_le_ediv (by omega) hxy
theorem up_mono {x y d : Int} (h : 1 ≤ d) (hxy : x ≤ y) : upD x d ≤ upD y d := by
  rw [up_pos h, up_pos h]
  have := Int.ediv_le_ediv (a := -y) (b := -x) (c := d) (by omega) (by omega)
  omega
/-- of numbers at most one apart the rounded ones are at most two apart -/
theorem up_dn {x y d : Int} (h : 1 ≤ d) (hxy : y ≤ x + 1) : upD y d ≤ dnZ x d + 2 := by
  have h1 := (dn_spec (x := x) h).2
  have h2 := (up_spec (x := y) h).1
  have h3 : (upD y d - 1) * d < (dnZ x d + 2) * d := by
    have : (dnZ x d + 2) * d = (dnZ x d + 1) * d + d := by rw [show dnZ x d + 2 = dnZ x d + 1 + 1 from by omega, Int.add_mul _ 1, Int.one_mul]
    omega
  have := Int.lt_of_mul_lt_mul_right h3 (by omega)
  omega
theorem up_dn0 {x d : Int} (h : 1 ≤ d) : dnZ x d ≤ upD x d ∧ upD x d ≤ dnZ x d + 1 := by
  have h1 := dn_spec (x := x) h
  have h2 := up_spec (x := x) h
  constructor
  · have h3 : dnZ x d * d ≤ upD x d * d := by omega
    exact Int.le_of_mul_le_mul_right h3 (by omega)
  · have h3 : (upD x d - 1) * d < (dnZ x d + 1) * d := by omega
    have := Int.lt_of_mul_lt_mul_right h3 (by omega)
    omega
theorem mul_lt {p q d : Int} (h : p * d < q * d) (hd : 1 ≤ d) : p < q := Int.lt_of_mul_lt_mul_right h (by omega)
theorem root_lt {A x : Int} (hA : 0 ≤ A) (hx : 0 ≤ x) : A < x * x ↔ rootZ A < x := by
  obtain ⟨r0, r1, r2⟩ := rootZ_spec hA
  constructor
  · intro h
    by_cases hc : rootZ A < x
    · exact hc
    · have := Int.mul_le_mul (a := x) (b := x) (c := rootZ A) (d := rootZ A) (by omega) (by omega) hx (by omega)
      omega
  · intro h
    have := Int.mul_le_mul (a := rootZ A + 1) (b := rootZ A + 1) (c := x) (d := x) (by omega) (by omega) (by omega) hx
    omega
theorem up_root {A : Int} : rootZ A ≤ upZ A ∧ upZ A ≤ rootZ A + 1 := by unfold upZ; split <;> omega
def vd6 (a b e f g h : Int) : Int := if f < g then 1 else if h < a then 1 else if e < h then 2 else if g < b then 2 else 0
/-- what is told of a value is so -/
theorem sure_num {C E A D F : Int} (hD : 1 ≤ D) (hA : 0 ≤ A) (hF : (0 ≤ E ∧ F = E) ∨ (E < 0 ∧ F = -E)) :
    (vd6 (dnZ (C - upZ A) D) (upD (C - rootZ A) D) (dnZ (C + rootZ A) D) (upD (C + upZ A) D) (dnZ (C + E) D) (upD (C + E) D) = 1 → A < F * F) ∧
    (vd6 (dnZ (C - upZ A) D) (upD (C - rootZ A) D) (dnZ (C + rootZ A) D) (upD (C + upZ A) D) (dnZ (C + E) D) (upD (C + E) D) = 0 → ¬ A < F * F) ∧
    (3 * D < F → A < (F - 3 * D) * (F - 3 * D) → vd6 (dnZ (C - upZ A) D) (upD (C - rootZ A) D) (dnZ (C + rootZ A) D) (upD (C + upZ A) D) (dnZ (C + E) D) (upD (C + E) D) = 1) ∧
    (¬ A < (F + 3 * D) * (F + 3 * D) → vd6 (dnZ (C - upZ A) D) (upD (C - rootZ A) D) (dnZ (C + rootZ A) D) (upD (C + upZ A) D) (dnZ (C + E) D) (upD (C + E) D) = 0) := by
  obtain ⟨r0, _, _⟩ := rootZ_spec hA
  obtain ⟨u0, u1⟩ := up_root (A := A)
  have k1 : ∀ x : Int, 0 ≤ x → (A < x * x ↔ rootZ A < x) := fun x hx => root_lt hA hx
  have l1 := dn_spec (x := C - upZ A) hD
  have l2 := up_spec (x := C - rootZ A) hD
  have h1 := dn_spec (x := C + rootZ A) hD
  have h2 := up_spec (x := C + upZ A) hD
  have v1 := dn_spec (x := C + E) hD
  have v2 := up_spec (x := C + E) hD
  have o1 := up_dn0 (x := C + E) hD
  have o2 : dnZ (C - upZ A) D ≤ upD (C - rootZ A) D := Int.le_trans (dn_mono hD (by omega)) (up_dn0 hD).1
  have o3 : dnZ (C + rootZ A) D ≤ upD (C + upZ A) D := Int.le_trans (dn_mono hD (by omega)) (up_dn0 hD).1
  rw [k1 F (by omega)]
  have k3 : 3 * D < F → (A < (F - 3 * D) * (F - 3 * D) ↔ rootZ A < F - 3 * D) := fun h => k1 _ (by omega)
  have k4 := k1 (F + 3 * D) (by omega)
  rw [k4]
  clear k1 k4
  generalize dnZ (C - upZ A) D = L1 at *
  generalize upD (C - rootZ A) D = L2 at *
  generalize dnZ (C + rootZ A) D = H1 at *
  generalize upD (C + upZ A) D = H2 at *
  generalize dnZ (C + E) D = V1 at *
  generalize upD (C + E) D = V2 at *
  generalize rootZ A = r at *
  generalize upZ A = u at *
  have e1 : (V1 + 1) * D = V1 * D + D := by rw [Int.add_mul, Int.one_mul]
  have e2 : (V2 - 1) * D = V2 * D - D := by rw [Int.sub_mul, Int.one_mul]
  have e3 : (H1 + 1) * D = H1 * D + D := by rw [Int.add_mul, Int.one_mul]
  have e4 : (H2 - 1) * D = H2 * D - D := by rw [Int.sub_mul, Int.one_mul]
  have e5 : (L1 + 1) * D = L1 * D + D := by rw [Int.add_mul, Int.one_mul]
  have e6 : (L2 - 1) * D = L2 * D - D := by rw [Int.sub_mul, Int.one_mul]
  have m1 : H2 < V1 → H2 * D + D ≤ V1 * D := fun h => by
    have := Int.mul_le_mul_of_nonneg_right (a := H2 + 1) (b := V1) (c := D) (by omega) (by omega)
    rw [Int.add_mul, Int.one_mul] at this; exact this
  have m2 : V2 < L1 → V2 * D + D ≤ L1 * D := fun h => by
    have := Int.mul_le_mul_of_nonneg_right (a := V2 + 1) (b := L1) (c := D) (by omega) (by omega)
    rw [Int.add_mul, Int.one_mul] at this; exact this
  have m3 : V2 ≤ H1 → V2 * D ≤ H1 * D := fun h => Int.mul_le_mul_of_nonneg_right h (by omega)
  have m4 : L2 ≤ V1 → L2 * D ≤ V1 * D := fun h => Int.mul_le_mul_of_nonneg_right h (by omega)
  have n1 : V1 ≤ H2 → V1 * D ≤ H2 * D := fun h => Int.mul_le_mul_of_nonneg_right h (by omega)
  have n2 : L1 ≤ V2 → L1 * D ≤ V2 * D := fun h => Int.mul_le_mul_of_nonneg_right h (by omega)
  have n3 : H1 ≤ V2 → H1 * D ≤ V2 * D := fun h => Int.mul_le_mul_of_nonneg_right h (by omega)
  have n4 : V1 ≤ L2 → V1 * D ≤ L2 * D := fun h => Int.mul_le_mul_of_nonneg_right h (by omega)
  rw [e1] at v1
  rw [e2] at v2
  rw [e3] at h1
  rw [e4] at h2
  rw [e5] at l1
  rw [e6] at l2
  clear e1 e2 e3 e4 e5 e6
  generalize V1 * D = v1D at *
  generalize V2 * D = v2D at *
  generalize H1 * D = h1D at *
  generalize H2 * D = h2D at *
  generalize L1 * D = l1D at *
  generalize L2 * D = l2D at *
  unfold vd6
  refine ⟨fun h => ?_, fun h => ?_, fun h3 h4 => ?_, fun h => ?_⟩
  · by_cases c1 : H2 < V1
    · have := m1 c1; omega
    · by_cases c2 : V2 < L1
      · have := m2 c2; omega
      · rw [if_neg c1, if_neg c2] at h
        split at h <;> (try split at h) <;> omega
  · by_cases c1 : H2 < V1
    · rw [if_pos c1] at h; omega
    · by_cases c2 : V2 < L1
      · rw [if_neg c1, if_pos c2] at h; omega
      · by_cases c3 : H1 < V2
        · rw [if_neg c1, if_neg c2, if_pos c3] at h; omega
        · by_cases c4 : V1 < L2
          · rw [if_neg c1, if_neg c2, if_neg c3, if_pos c4] at h; omega
          · have := m3 (by omega)
            have := m4 (by omega)
            omega
  · rw [k3 h3] at h4
    by_cases c1 : H2 < V1
    · rw [if_pos c1]
    · by_cases c2 : V2 < L1
      · rw [if_neg c1, if_pos c2]
      · have := n1 (by omega)
        have := n2 (by omega)
        omega
  · by_cases c3 : H1 ≤ V2
    · have := n3 c3; omega
    · by_cases c4 : V1 ≤ L2
      · have := n4 c4; omega
      · rw [if_neg (by omega), if_neg (by omega), if_neg (by omega), if_neg (by omega)]
end Go.Proofs.Ytlhmhcjpdpakkaa.X
