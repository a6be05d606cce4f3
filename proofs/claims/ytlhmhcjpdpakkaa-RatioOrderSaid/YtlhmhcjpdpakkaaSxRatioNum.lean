/-
  Ratios, as numbers: lowest terms are of one kind alone; what is less.
-/
import Derived.Test.YtlhmhcjpdpakkaaSxRatioTells
namespace Go.Proofs.Ytlhmhcjpdpakkaa.X
open Go Go.SX Go.RowKit
set_option linter.unusedVariables false
set_option linter.unusedSimpArgs false
/-! ### lowest terms are of one kind alone -/
theorem absZ_nat (n : Int) : absZ n = (n.natAbs : Int) := by unfold absZ; split <;> omega
theorem low_uniq {n d m e : Int} (hd : 0 < d) (he : 0 < e) (h1 : gcdZ (absZ n) d = 1) (h2 : gcdZ (absZ m) e = 1) (h : n * e = m * d) : n = m ∧ d = e := by
  obtain ⟨D, rfl⟩ := Int.eq_ofNat_of_zero_le (Int.le_of_lt hd)
  obtain ⟨E, rfl⟩ := Int.eq_ofNat_of_zero_le (Int.le_of_lt he)
  rw [absZ_nat, gcdZ_nat] at h1 h2
  have c1 : Nat.gcd n.natAbs D = 1 := by omega
  have c2 : Nat.gcd m.natAbs E = 1 := by omega
  have ha : n.natAbs * E = m.natAbs * D := by
    have := congrArg Int.natAbs h
    rwa [Int.natAbs_mul, Int.natAbs_mul, Int.natAbs_natCast, Int.natAbs_natCast] at this
  have d1 : D ∣ E := (Nat.Coprime.dvd_of_dvd_mul_left (Nat.Coprime.symm c1) ⟨m.natAbs, by rw [ha, Nat.mul_comm]⟩)
  have d2 : E ∣ D := (Nat.Coprime.dvd_of_dvd_mul_left (Nat.Coprime.symm c2) ⟨n.natAbs, by rw [← ha, Nat.mul_comm]⟩)
  have de : D = E := Nat.dvd_antisymm d1 d2
  subst de
  exact ⟨Int.eq_of_mul_eq_mul_right (by omega) h, rfl⟩
theorem rt_parts {N D : Int} (hD : 0 < D) : ∃ g : Int, 0 < g ∧ rtN N D * g = N ∧ rtD N D * g = D ∧ 0 < rtD N D := by
  have hN : 0 ≤ absZ N := by unfold absZ; split <;> omega
  have hg := gcdZ_nonneg (absZ N) D
  have hg0 : gcdZ (absZ N) D ≠ 0 := fun h => by have := (gcdZ_eq_zero hN (Int.le_of_lt hD)).1 h; omega
  have hd := gcdZ_dvd hN (Int.le_of_lt hD)
  refine ⟨gcdZ (absZ N) D, by omega, ?_, ?_, ?_⟩
  · unfold rtN
    refine Int.ediv_mul_cancel ?_
    have h1 := Int.dvd_of_emod_eq_zero hd.1
    rw [absZ_nat] at h1 ⊢
    exact Int.dvd_natAbs.1 h1
  · unfold rtD
    exact Int.ediv_mul_cancel (Int.dvd_of_emod_eq_zero hd.2)
  · have := (rt_right (N := N) hD).1; omega
theorem rt_uniq {N D M E : Int} (hD : 0 < D) (hE : 0 < E) (h : N * E = M * D) : rtN N D = rtN M E ∧ rtD N D = rtD M E := by
  obtain ⟨g, g0, g1, g2, g3⟩ := rt_parts (N := N) hD
  obtain ⟨k, k0, k1, k2, k3⟩ := rt_parts (N := M) hE
  have r1 := rt_right (N := N) hD
  have r2 := rt_right (N := M) hE
  refine low_uniq g3 k3 r1.2 r2.2 ?_
  have hgk : 0 < g * k := Int.mul_pos g0 k0
  refine Int.eq_of_mul_eq_mul_right (show g * k ≠ 0 by omega) ?_
  have e1 : rtN N D * rtD M E * (g * k) = (rtN N D * g) * (rtD M E * k) := by grind
  have e2 : rtN M E * rtD N D * (g * k) = (rtN M E * k) * (rtD N D * g) := by grind
  rw [e1, e2, g1, g2, k1, k2, h]
theorem rtOK_uniq {N D M E : Int} (hD : 0 < D) (hE : 0 < E) (h : N * E = M * D) : rtOK N D ↔ rtOK M E := by
  obtain ⟨e1, e2⟩ := rt_uniq hD hE h
  unfold rtOK; rw [e1, e2]
/-- of two fractions, the one is less just if it is in lowest terms -/
theorem rt_lt {N D M E : Int} (hD : 0 < D) (hE : 0 < E) : rtN N D * rtD M E < rtN M E * rtD N D ↔ N * E < M * D := by
  obtain ⟨g, g0, g1, g2, g3⟩ := rt_parts (N := N) hD
  obtain ⟨k, k0, k1, k2, k3⟩ := rt_parts (N := M) hE
  have hgk : 0 < g * k := Int.mul_pos g0 k0
  have e1 : N * E = rtN N D * rtD M E * (g * k) := by
    have : rtN N D * rtD M E * (g * k) = (rtN N D * g) * (rtD M E * k) := by grind
    rw [this, g1, k2]
  have e2 : M * D = rtN M E * rtD N D * (g * k) := by
    have : rtN M E * rtD N D * (g * k) = (rtN M E * k) * (rtD N D * g) := by grind
    rw [this, k1, g2]
  rw [e1, e2]
  constructor
  · intro h; exact Int.mul_lt_mul_of_pos_right h hgk
  · intro h; exact Int.lt_of_mul_lt_mul_right h (Int.le_of_lt hgk)
theorem rt_cmp {N D M E : Int} (hD : 0 < D) (hE : 0 < E) : cmpZ (rtN N D * rtD M E) (rtN M E * rtD N D) = cmpZ (N * E) (M * D) := by
  have h1 := rt_lt (N := N) (M := M) hD hE
  have h2 := rt_lt (N := M) (M := N) hE hD
  unfold cmpZ
  by_cases c1 : N * E < M * D
  · rw [if_pos c1, if_pos (h1.2 c1)]
  · rw [if_neg c1, if_neg (fun h => c1 (h1.1 h))]
    by_cases c2 : M * D < N * E
    · rw [if_pos c2, if_pos (h2.2 c2)]
    · rw [if_neg c2, if_neg (fun h => c2 (h2.1 h))]
/-- what New hands back, if it does -/
theorem new_right {n d : Int} {x y e : Int} (hd : d ≠ 0) (hx : x = if d ≠ 0 ∧ rtOK (if d < 0 then -n else n) (absZ d) then rtN (if d < 0 then -n else n) (absZ d) else 0)
    (hy : y = if d ≠ 0 ∧ rtOK (if d < 0 then -n else n) (absZ d) then rtD (if d < 0 then -n else n) (absZ d) else 0) (he : e = if d ≠ 0 then (if rtOK (if d < 0 then -n else n) (absZ d) then 0 else 5) else 4) (h0 : e = 0) : rtR x y := by
  rw [if_pos hd] at he
  have hok : rtOK (if d < 0 then -n else n) (absZ d) := by
    refine Decidable.byContradiction fun h => ?_
    rw [if_neg h] at he; omega
  rw [if_pos ⟨hd, hok⟩] at hx hy
  subst hx hy
  exact rt_right (by unfold absZ; split <;> omega)
theorem tmod_rng (s : Int) : -999999999 ≤ s.tmod 1000000000 ∧ s.tmod 1000000000 ≤ 999999999 := by
  have h1 := Int.tmod_lt_of_pos s (show (0 : Int) < 1000000000 by omega)
  have h2 := Int.tmod_lt_of_pos (-s) (show (0 : Int) < 1000000000 by omega)
  rw [Int.neg_tmod] at h2
  omega
theorem tmod_pos {s : Int} (h : 0 ≤ s) : 0 ≤ s.tmod 1000000000 ∧ s.tmod 1000000000 ≤ 999999999 := by
  rw [Int.tmod_eq_emod_of_nonneg h]; omega
theorem rt_whole (n : Int) : rtN n 1 = n ∧ rtD n 1 = 1 ∧ rtR n 1 := by
  have h : gcdZ (absZ n) 1 = 1 := by unfold gcdZ; simp
  refine ⟨?_, ?_, ?_⟩
  · unfold rtN; rw [h, Int.ediv_one]
  · unfold rtD; rw [h, Int.ediv_one]
  · exact ⟨by omega, h⟩
theorem eq_beq (a b c d : Int) : (Cmp.eq.den a b == Cmp.eq.den c d) = decide (a = b ↔ c = d) := by
  by_cases h1 : a = b <;> by_cases h2 : c = d <;> simp [Cmp.den, h1, h2]
theorem eq_eq {a b c d : Int} : (Cmp.eq.den a b = Cmp.eq.den c d) ↔ (a = b ↔ c = d) := by
  by_cases h1 : a = b <;> by_cases h2 : c = d <;> simp [Cmp.den, h1, h2]
/-- both ways of rounding, by what is left -/
theorem enc_parts {T C : Int} (hC : 0 < C) : ∃ q r : Int, (0 ≤ r ∧ r < C) ∧ T / C = q ∧ -(-T / C) = (if r = 0 then q else q + 1) ∧ q * C = T - r := by
  refine ⟨T / C, T % C, ⟨Int.emod_nonneg _ (by omega), Int.emod_lt_of_pos _ hC⟩, rfl, ?_, ?_⟩
  · obtain ⟨n1, n2⟩ := neg_div (T := T) hC
    split
    · rename_i h; rw [(n1 h).1]; omega
    · rename_i h; rw [(n2 h).1]; omega
  · have e := Int.emod_add_mul_ediv T C
    have e2 : C * (T / C) = T / C * C := Int.mul_comm _ _
    omega
end Go.Proofs.Ytlhmhcjpdpakkaa.X
