/-
  How well what is made fits what is asked, as numbers.
-/
import Derived.Test.YtglpelnaeipenaaGreatSxStatNum2
import Derived.Test.YtglpelnaeipenaaGreatSxWide2
import Derived.Test.YtglpelnaeipenaaGreatSxDivide
import Derived.Test.YtglpelnaeipenaaGreatSxRoot
namespace Go.Proofs.YtglpelnaeipenaaGreat.X
open Go Go.SX Go.RowKit
set_option linter.unusedVariables false
def rtLo (A D : Int) : Int := rootZ (A / D)
def rtUp (A D : Int) : Int := A / D + (if A % D = 0 then 0 else 1)
def rtHi (A D : Int) : Int := upZ (rtUp A D)
def ppA (n a b k : Int) : Int := (b - a) * (b - a) * n * (n - 1) * k * k
def nearZ (n s a b : Int) : Int := if s - a * n < b * n - s then s - a * n else b * n - s
def pkA (n s a b k : Int) : Int := nearZ n s a b * nearZ n s a b * (n - 1) * k * k
def abOK (n s h l mn mx a b k : Int) : Prop := stOK n s h l mn mx ∧ (-1000000 ≤ a ∧ b ≤ 1000000 ∧ a < b) ∧ (1 ≤ k ∧ k ≤ 1000) ∧ (2 ≤ n ∧ n ≤ 1000) ∧ n * val h l - s * s ≠ 0
instance decAb (n s h l mn mx a b k : Int) : Decidable (abOK n s h l mn mx a b k) := by unfold abOK; exact inferInstance
def abE (n s h l mn mx a b k : Int) : Int := if stOK n s h l mn mx ∧ (-1000000 ≤ a ∧ b ≤ 1000000 ∧ a < b) then (if 1 ≤ k ∧ k ≤ 1000 then (if 2 ≤ n then (if n ≤ 1000 then (if n * val h l - s * s = 0 then 6 else 0) else 2) else 12) else 3) else 1
theorem abE_rng (n s h l mn mx a b k : Int) : 0 ≤ abE n s h l mn mx a b k ∧ abE n s h l mn mx a b k ≤ 12 := by
  unfold abE
  repeat' split
  all_goals omega
theorem nn_mul {x y X Y : Int} (hx : 0 ≤ x ∧ x ≤ X) (hy : 0 ≤ y ∧ y ≤ Y) : 0 ≤ x * y ∧ x * y ≤ X * Y := ⟨Int.mul_nonneg hx.1 hy.1, Int.mul_le_mul hx.2 hy.2 hy.1 (by omega)⟩
/-- the numbers of Pp, as they grow -/
theorem ppA_rng {n a b k : Int} (hw : -1000000 ≤ a ∧ b ≤ 1000000 ∧ a < b) (hk : 1 ≤ k ∧ k ≤ 1000) (hn : 2 ≤ n ∧ n ≤ 1000) :
    (0 ≤ (b - a) * (b - a) ∧ (b - a) * (b - a) ≤ 4000000000000) ∧ (0 ≤ (b - a) * (b - a) * n ∧ (b - a) * (b - a) * n ≤ 4000000000000000) ∧ (0 ≤ (b - a) * (b - a) * n * (n - 1) ∧ (b - a) * (b - a) * n * (n - 1) ≤ 4000000000000000000) ∧ (0 ≤ (b - a) * (b - a) * n * (n - 1) * k ∧ (b - a) * (b - a) * n * (n - 1) * k ≤ 4000000000000000000000) ∧ (0 ≤ ppA n a b k ∧ ppA n a b k ≤ 4000000000000000000000000) := by
  have h1 := nn_mul (x := b - a) (y := b - a) (X := 2000000) (Y := 2000000) (by omega) (by omega)
  have h2 := nn_mul (y := n) (Y := 1000) h1 (by omega)
  have h3 := nn_mul (y := n - 1) (Y := 1000) h2 (by omega)
  have h4 := nn_mul (y := k) (Y := 1000) h3 (by omega)
  have h5 := nn_mul (y := k) (Y := 1000) h4 (by omega)
  unfold ppA
  omega
theorem ab_sp {n s h l mn mx : Int} (j_h : IsU h) (j_l : IsU l) (c : stOK n s h l mn mx) (hn : n ≤ 1000) : 0 ≤ n * val h l - s * s ∧ n * val h l - s * s ≤ 1000000000000000000 := by
  obtain ⟨r1, r2, r3, r4, r5, r6⟩ := st_rng j_h j_l c
  have hs := sq_le15 r2
  refine ⟨by omega, ?_⟩
  rcases c with ⟨k1, k2, k3, k4, k5, k6⟩ | ⟨k1, k2, k3, k4, k5, k6, k7, k8⟩
  · rw [k1, Int.zero_mul]; omega
  · have := nn_mul (x := n) (y := val h l) (X := 1000) (Y := 1000000000000000) (by omega) (by omega)
    omega
theorem ab_num {n s h l mn mx a b k : Int} (j_h : IsU h) (j_l : IsU l) (c : abOK n s h l mn mx a b k) : (0 ≤ ppA n a b k ∧ ppA n a b k ≤ 4000000000000000000000000) ∧ (1 ≤ n * val h l - s * s ∧ n * val h l - s * s ≤ 1000000000000000000) := by
  obtain ⟨c1, c2, c3, c4, c5⟩ := c
  have := ab_sp j_h j_l c1 c4.2
  exact ⟨(ppA_rng c2 c3 c4).2.2.2.2, by omega⟩
/-- the near side -/
theorem near_rng {n s a b mn mx : Int} (hw : -1000000 ≤ a ∧ b ≤ 1000000 ∧ a < b) (hn : 0 ≤ n ∧ n ≤ 1000000000) (hs : -1000000000000000 ≤ s ∧ s ≤ 1000000000000000) :
    (-1000000000000000 ≤ b * n ∧ b * n ≤ 1000000000000000) ∧ (-1000000000000000 ≤ a * n ∧ a * n ≤ 1000000000000000) ∧ (-2000000000000000 ≤ nearZ n s a b ∧ nearZ n s a b ≤ 2000000000000000) := by
  have h1 := Int.mul_le_mul_of_nonneg_right (show b ≤ 1000000 by omega) hn.1
  have h2 := Int.mul_le_mul_of_nonneg_right (show -1000000 ≤ b by omega) hn.1
  have h3 := Int.mul_le_mul_of_nonneg_right (show a ≤ 1000000 by omega) hn.1
  have h4 := Int.mul_le_mul_of_nonneg_right (show -1000000 ≤ a by omega) hn.1
  unfold nearZ
  refine ⟨by omega, by omega, ?_⟩
  split <;> omega
theorem rt_rng {A D : Int} (hA : 0 ≤ A ∧ A ≤ 10000000000000000000000000000000000000) (hD : 1 ≤ D) : (0 ≤ A / D ∧ A / D ≤ A) ∧ (0 ≤ rtUp A D ∧ rtUp A D ≤ A) ∧ (0 ≤ rtLo A D ∧ rtLo A D ≤ 9223372036854775807) ∧ (0 ≤ rtHi A D ∧ rtHi A D ≤ 9223372036854775807) ∧ rtLo A D ≤ rtHi A D := by
  have h1 : 0 ≤ A / D := Int.ediv_nonneg hA.1 (by omega)
  have h2 : A / D ≤ A := Int.ediv_le_self _ hA.1
  have h3 : 0 ≤ rtUp A D ∧ rtUp A D ≤ A := by
    unfold rtUp
    split
    · omega
    · rename_i hm
      refine ⟨by omega, ?_⟩
      by_cases q : A / D = A
      · exfalso
        by_cases d1 : D = 1
        · subst d1; exact hm (Int.emod_one A)
        · by_cases z : A = 0
          · subst z; exact hm (Int.zero_emod D)
          · have := Int.ediv_lt_self_of_pos_of_ne_one (x := A) (y := D) (by omega) d1
            omega
      · omega
  have sm : ∀ v : Int, 0 ≤ v → v ≤ 10000000000000000000000000000000000000 → 0 ≤ rootZ v ∧ rootZ v ≤ 9223372036854775807 ∧ upZ v ≤ 9223372036854775807 := by
    intro v h0 h
    obtain ⟨r1, r2, r3⟩ := rootZ_spec h0
    have : rootZ v ≤ 9223372036854775806 := by
      refine Decidable.byContradiction fun q => ?_
      have := Int.mul_le_mul (a := 9223372036854775807) (b := 9223372036854775807) (c := rootZ v) (d := rootZ v) (by omega) (by omega) (by omega) (by omega)
      omega
    unfold upZ
    split <;> omega
  have s1 := sm (A / D) h1 (by omega)
  have s2 := sm (rtUp A D) h3.1 (by omega)
  have m1 : rtLo A D ≤ rootZ (rtUp A D) := rootZ_mono h1 (by unfold rtUp; split <;> omega)
  have m2 : rootZ (rtUp A D) ≤ rtHi A D := by unfold rtHi upZ; split <;> omega
  refine ⟨⟨h1, h2⟩, h3, ⟨s1.1, s1.2.1⟩, ⟨by omega, s2.2.2⟩, by omega⟩
def pkLo (n s a b k SP : Int) : Int := if nearZ n s a b < 0 then -(rtHi (pkA n s a b k) (SP * (9 * n))) else rtLo (pkA n s a b k) (SP * (9 * n))
def pkHi (n s a b k SP : Int) : Int := if nearZ n s a b < 0 then -(rtLo (pkA n s a b k) (SP * (9 * n))) else rtHi (pkA n s a b k) (SP * (9 * n))
theorem st_s {n s h l mn mx : Int} (c : stOK n s h l mn mx) (hn : n ≤ 1000) : -1000000000 ≤ s ∧ s ≤ 1000000000 := by
  rcases c with ⟨k1, k2, k3, k4, k5, k6⟩ | ⟨k1, k2, k3, k4, k5, k6, k7, k8⟩
  · omega
  · have h1 := Int.mul_le_mul_of_nonneg_left (c := n) (show mx ≤ 1000000 by omega) (by omega)
    have h2 := Int.mul_le_mul_of_nonneg_left (c := n) (show -1000000 ≤ mn by omega) (by omega)
    omega
theorem pkA_rng {n s a b k : Int} (hw : -1000000 ≤ a ∧ b ≤ 1000000 ∧ a < b) (hk : 1 ≤ k ∧ k ≤ 1000) (hn : 2 ≤ n ∧ n ≤ 1000) (hs : -1000000000 ≤ s ∧ s ≤ 1000000000) :
    (-2000000000 ≤ nearZ n s a b ∧ nearZ n s a b ≤ 2000000000) ∧ (0 ≤ nearZ n s a b * nearZ n s a b ∧ nearZ n s a b * nearZ n s a b ≤ 4000000000000000000) ∧ (0 ≤ nearZ n s a b * nearZ n s a b * (n - 1) ∧ nearZ n s a b * nearZ n s a b * (n - 1) ≤ 4000000000000000000000) ∧ (0 ≤ nearZ n s a b * nearZ n s a b * (n - 1) * k ∧ nearZ n s a b * nearZ n s a b * (n - 1) * k ≤ 4000000000000000000000000) ∧ (0 ≤ pkA n s a b k ∧ pkA n s a b k ≤ 4000000000000000000000000000) := by
  have g1 := Int.mul_le_mul_of_nonneg_right (show b ≤ 1000000 by omega) (show 0 ≤ n by omega)
  have g2 := Int.mul_le_mul_of_nonneg_right (show -1000000 ≤ b by omega) (show 0 ≤ n by omega)
  have g3 := Int.mul_le_mul_of_nonneg_right (show a ≤ 1000000 by omega) (show 0 ≤ n by omega)
  have g4 := Int.mul_le_mul_of_nonneg_right (show -1000000 ≤ a by omega) (show 0 ≤ n by omega)
  have h0 : -2000000000 ≤ nearZ n s a b ∧ nearZ n s a b ≤ 2000000000 := by unfold nearZ; split <;> omega
  have h1 : 0 ≤ nearZ n s a b * nearZ n s a b ∧ nearZ n s a b * nearZ n s a b ≤ 4000000000000000000 := by
    rw [← abs_sq]
    have := nn_mul (x := absZ (nearZ n s a b)) (y := absZ (nearZ n s a b)) (X := 2000000000) (Y := 2000000000) (by unfold absZ; split <;> omega) (by unfold absZ; split <;> omega)
    omega
  have h3 := nn_mul (y := n - 1) (Y := 1000) h1 (by omega)
  have h4 := nn_mul (y := k) (Y := 1000) h3 (by omega)
  have h5 := nn_mul (y := k) (Y := 1000) h4 (by omega)
  unfold pkA
  omega
theorem spn_rng {SP n : Int} (h : 1 ≤ SP ∧ SP ≤ 1000000000000000000) (hn : 2 ≤ n ∧ n ≤ 1000) : 1 ≤ SP * (9 * n) ∧ SP * (9 * n) ≤ 10000000000000000000000 := by
  have h1 := Int.mul_le_mul (a := 1) (b := 18) (c := SP) (d := 9 * n) h.1 (by omega) (by omega) (by omega)
  have h2 := nn_mul (x := SP) (y := 9 * n) (X := 1000000000000000000) (Y := 9000) (by omega) (by omega)
  omega
theorem dq_eq {A D : Int} (hA : 0 ≤ A ∧ A ≤ 10000000000000000000000000000000000000) (hD : 0 ≤ D ∧ D ≤ 10000000000000000000000000000000000000) : divQ (A / 18446744073709551616 % 18446744073709551616) (A % 18446744073709551616) (D / 18446744073709551616 % 18446744073709551616) (D % 18446744073709551616) = (if D = 0 then 0 else A / D) ∧ divR (A / 18446744073709551616 % 18446744073709551616) (A % 18446744073709551616) (D / 18446744073709551616 % 18446744073709551616) (D % 18446744073709551616) = (if D = 0 then 0 else A % D) := by
  unfold divQ divR
  rw [vq2 (x := A) hA.1 (by omega), vq2 (x := D) hD.1 (by omega)]
  exact ⟨rfl, rfl⟩
/-- what the root of a quotient is told by -/
theorem rooted {A D : Int} (hA : 0 ≤ A ∧ A ≤ 10000000000000000000000000000000000000) (hD : 1 ≤ D ∧ D ≤ 10000000000000000000000000000000000000) :
    (divQ (A / 18446744073709551616 % 18446744073709551616) (A % 18446744073709551616) (D / 18446744073709551616 % 18446744073709551616) (D % 18446744073709551616) = A / D ∧ divR (A / 18446744073709551616 % 18446744073709551616) (A % 18446744073709551616) (D / 18446744073709551616 % 18446744073709551616) (D % 18446744073709551616) = A % D) ∧
    val (A / D / 18446744073709551616) (A / D % 18446744073709551616) = A / D ∧ (IsU (A / D / 18446744073709551616) ∧ IsU (A % D / 18446744073709551616)) ∧ IntKind.i64.wrap (rootZ (A / D)) = rtLo A D ∧
    (A % D = 0 → IntKind.i64.wrap (upZ (A / D) % 18446744073709551616) = rtHi A D) ∧ (¬ A % D = 0 → IntKind.i64.wrap (upZ (A / D + 1) % 18446744073709551616) = rtHi A D) ∧
    val ((A / D + 1) / 18446744073709551616 % 18446744073709551616) ((A / D + 1) % 18446744073709551616) = A / D + 1 ∧ val (D / 18446744073709551616 % 18446744073709551616) (D % 18446744073709551616) = D := by
  obtain ⟨r1, r2, r3, r4, r5⟩ := rt_rng hA hD.1
  obtain ⟨d1, d2⟩ := dq_eq hA (D := D) ⟨by omega, hD.2⟩
  rw [if_neg (by omega)] at d1 d2
  have m0 : 0 ≤ A % D ∧ A % D < D := ⟨Int.emod_nonneg A (by omega), Int.emod_lt_of_pos A (by omega)⟩
  refine ⟨⟨d1, d2⟩, vq _, ⟨⟨by omega, by omega⟩, ⟨by omega, by omega⟩⟩, w64 (by unfold rtLo at r3; omega) (by unfold rtLo at r3; omega), fun h => ?_, fun h => ?_, vq2 (by omega) (by omega), vq2 (by omega) (by omega)⟩
  · have e : rtHi A D = upZ (A / D) := by unfold rtHi rtUp; rw [if_pos h, Int.add_zero]
    rw [← e, w64 (by omega) (by omega)]; omega
  · have e : rtHi A D = upZ (A / D + 1) := by unfold rtHi rtUp; rw [if_neg h]
    rw [← e, w64 (by omega) (by omega)]; omega
end Go.Proofs.YtglpelnaeipenaaGreat.X
