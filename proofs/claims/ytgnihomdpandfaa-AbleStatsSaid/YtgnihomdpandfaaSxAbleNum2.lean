/-
  Roots of quotients, as numbers: how wide they are, and what they enclose.
-/
import Derived.Test.YtgnihomdpandfaaSxAbleNum
import Derived.Test.YtgnihomdpandfaaSxStatNum3
namespace Go.Proofs.Ytgnihomdpandfaa.X
open Go Go.SX Go.RowKit
set_option linter.unusedVariables false
theorem upZ_spec {v : Int} (h : 0 ≤ v) : v ≤ upZ v * upZ v ∧ 0 ≤ upZ v := by
  obtain ⟨r1, r2, r3⟩ := rootZ_spec h
  unfold upZ
  split
  · rename_i e; exact ⟨by omega, r1⟩
  · exact ⟨by omega, by omega⟩
theorem upZ_least {v u : Int} (h : 0 ≤ v) (hu : 0 ≤ u) (hv : v ≤ u * u) : upZ v ≤ u := by
  obtain ⟨r1, r2, r3⟩ := rootZ_spec h
  unfold upZ
  split
  · rename_i e
    refine Decidable.byContradiction fun q => ?_
    have := Int.mul_le_mul (a := u + 1) (b := u + 1) (c := rootZ v) (d := rootZ v) (by omega) (by omega) (by omega) (by omega)
    rw [Int.add_mul, Int.mul_add] at this
    omega
  · rename_i e
    refine Decidable.byContradiction fun q => ?_
    have := Int.mul_le_mul (a := u) (b := u) (c := rootZ v) (d := rootZ v) (by omega) (by omega) (by omega) (by omega)
    omega
/-- the quotient, rounded up, is the least that is not below -/
theorem up_spec {A D : Int} (hD : 1 ≤ D) : A ≤ rtUp A D * D ∧ ∀ u : Int, A ≤ u * D → rtUp A D ≤ u := by
  have e := Int.emod_add_mul_ediv A D
  have m0 := Int.emod_nonneg A (b := D) (by omega)
  have m1 := Int.emod_lt_of_pos A (b := D) (by omega)
  rw [Int.mul_comm] at e
  unfold rtUp
  generalize hq : A / D = q at *
  generalize A % D = r at *
  refine ⟨?_, fun u hu => ?_⟩
  · rw [Int.add_mul]
    split <;> omega
  · split
    · rename_i h
      refine Decidable.byContradiction fun k => ?_
      have := Int.mul_le_mul_of_nonneg_right (c := D) (show u + 1 ≤ q by omega) (by omega)
      rw [Int.add_mul] at this
      omega
    · rename_i h
      refine Decidable.byContradiction fun k => ?_
      have := Int.mul_le_mul_of_nonneg_right (c := D) (show u ≤ q by omega) (by omega)
      omega
theorem dn_spec {A D : Int} (hD : 1 ≤ D) : A / D * D ≤ A ∧ ∀ u : Int, u * D ≤ A → u ≤ A / D :=
  ⟨Int.ediv_mul_le A (by omega), fun u hu => Int.le_ediv_of_mul_le (by omega) hu⟩
/-- the ends are at most 1 apart -/
theorem rt_wide {A D : Int} (hA : 0 ≤ A) (hD : 1 ≤ D) : rtHi A D ≤ rtLo A D + 1 := by
  have h1 : 0 ≤ A / D := Int.ediv_nonneg hA (by omega)
  obtain ⟨r1, r2, r3⟩ := rootZ_spec h1
  unfold rtHi rtLo
  refine upZ_least (by unfold rtUp; split <;> omega) (by omega) ?_
  unfold rtUp
  split <;> omega
/-- squared, they enclose what is asked -/
theorem rt_encl {A D : Int} (hA : 0 ≤ A) (hD : 1 ≤ D) : D * (rtLo A D * rtLo A D) ≤ A ∧ A ≤ D * (rtHi A D * rtHi A D) := by
  have h1 : 0 ≤ A / D := Int.ediv_nonneg hA (by omega)
  obtain ⟨r1, r2, r3⟩ := rootZ_spec h1
  have h2 : 0 ≤ rtUp A D := by unfold rtUp; split <;> omega
  have u := (upZ_spec h2).1
  have d := (dn_spec (A := A) hD).1
  have p := (up_spec (A := A) hD).1
  refine ⟨?_, ?_⟩
  · have := Int.mul_le_mul_of_nonneg_right (c := D) r2 (by omega)
    unfold rtLo
    rw [Int.mul_comm]
    omega
  · have := Int.mul_le_mul_of_nonneg_right (c := D) u (by omega)
    unfold rtHi
    rw [Int.mul_comm D]
    omega
/-- of quotients one of which is not more -/
theorem rt_le {A D B E : Int} (hA : 0 ≤ A) (hD : 1 ≤ D) (hB : 0 ≤ B) (hE : 1 ≤ E) (h : A * E ≤ B * D) : rtLo A D ≤ rtLo B E ∧ rtHi A D ≤ rtHi B E := by
  have q1 : A / D ≤ B / E := by
    refine (dn_spec hE).2 _ ?_
    have d := (dn_spec (A := A) hD).1
    have m := Int.mul_le_mul_of_nonneg_right (c := E) d (by omega)
    have e : A / D * D * E = A / D * E * D := Int.mul_right_comm ..
    rw [e] at m
    exact Int.le_of_mul_le_mul_right (a := D) (by omega) (by omega)
  have q2 : rtUp A D ≤ rtUp B E := by
    refine (up_spec hD).2 _ ?_
    have p := (up_spec (A := B) hE).1
    have m := Int.mul_le_mul_of_nonneg_right (c := D) p (by omega)
    have e : rtUp B E * E * D = rtUp B E * D * E := Int.mul_right_comm ..
    rw [e] at m
    exact Int.le_of_mul_le_mul_right (a := E) (by omega) (by omega)
  have h1 : 0 ≤ A / D := Int.ediv_nonneg hA (by omega)
  have h2 : 0 ≤ rtUp A D := by unfold rtUp; split <;> omega
  exact ⟨rootZ_mono h1 q1, upZ_mono h2 q2⟩
theorem rt_eq {A D B E : Int} (hA : 0 ≤ A) (hD : 1 ≤ D) (hB : 0 ≤ B) (hE : 1 ≤ E) (h : A * E = B * D) : rtLo A D = rtLo B E ∧ rtHi A D = rtHi B E := by
  have a := rt_le hA hD hB hE (by omega)
  have b := rt_le hB hE hA hD (by omega)
  omega
theorem near_half {n s a b : Int} : 2 * nearZ n s a b ≤ n * (b - a) := by
  unfold nearZ
  rw [Int.mul_sub, Int.mul_comm n b, Int.mul_comm n a]
  split <;> omega
theorem pk_pp {n s a b k SP : Int} (hN : 0 ≤ nearZ n s a b) (hn : 1 ≤ n) (hk : 0 ≤ k) (hS : 0 ≤ SP) : pkA n s a b k * (SP * 36) ≤ ppA n a b k * (SP * (9 * n)) := by
  have h2 := near_half (n := n) (s := s) (a := a) (b := b)
  unfold pkA ppA
  generalize nearZ n s a b = N at *
  generalize b - a = w at *
  have h4 := Int.mul_le_mul h2 h2 (by omega) (by omega)
  have c0 : 0 ≤ 9 * SP * (n - 1) * k * k := Int.mul_nonneg (Int.mul_nonneg (Int.mul_nonneg (by omega) (by omega)) hk) hk
  have m := Int.mul_le_mul_of_nonneg_left h4 c0
  have e1 : 9 * SP * (n - 1) * k * k * (2 * N * (2 * N)) = N * N * (n - 1) * k * k * (SP * (9 * (2 * 2))) := by ac_rfl
  have e2 : 9 * SP * (n - 1) * k * k * (n * w * (n * w)) = w * w * n * (n - 1) * k * k * (SP * (9 * n)) := by ac_rfl
  rw [e1, e2] at m
  exact m
/-- where the mean is in the middle the near side's number is the other one -/
theorem pk_mid {m s a b k SP : Int} (hs : nearZ (2 * m) s a b = m * (b - a)) : pkA (2 * m) s a b k * (SP * 36) = ppA (2 * m) a b k * (SP * (9 * (2 * m))) := by
  unfold pkA ppA
  rw [hs]
  generalize b - a = w
  generalize 2 * m - 1 = c
  have e1 : m * w * (m * w) * c * k * k * (SP * (9 * (2 * 2))) = w * w * (2 * m) * c * k * k * (SP * (9 * (2 * m))) := by ac_rfl
  exact e1
theorem pairL_same {l : List Int} (h : pairL l = 0) : ∀ y ∈ l, y = l.getD 0 0 := by
  cases l with
  | nil => intro y hy; cases hy
  | cons x r =>
    have h1 := difL_nonneg x r
    have h2 := pairL_nonneg r
    simp only [pairL] at h
    have h3 := (difL_zero x r).1 (by omega)
    intro y hy
    rcases List.mem_cons.1 hy with h | h
    · rw [h]; rfl
    · rw [h3 y h]; rfl
theorem inS_small {l : List Int} (h : ∀ y ∈ l, -100000 ≤ y ∧ y ≤ 100000) : inS l := fun y hy => by have := h y hy; omega
end Go.Proofs.Ytgnihomdpandfaa.X
