/-
  What EwmaHolds reckons, as numbers.
-/
import Derived.Test.YtlhmhcjpdpakkaaSxEwmaTurn
namespace Go.Proofs.Ytlhmhcjpdpakkaa.X
open Go Go.SX Go.RowKit
set_option linter.unusedVariables false
set_option linter.unusedSimpArgs false
theorem mm {a b c : Int} (h : a ≤ b) (hc : 0 ≤ c) : a * c ≤ b * c := Int.mul_le_mul_of_nonneg_right h hc
theorem ml {a b c : Int} (h : a ≤ b) (hc : 0 ≤ c) : c * a ≤ c * b := Int.mul_le_mul_of_nonneg_left h hc
/-- a sample's step: the mean -/
theorem hold_mean {w v K m A B : Int} (hw : 1 ≤ w ∧ w ≤ 99) (hv : -100000 ≤ v ∧ v ≤ 100000) (hK : 1 ≤ K ∧ K ≤ 1000000) (hm : -(100000000 * K) ≤ m ∧ m ≤ 100000000 * K) (hA : A * K ≤ m) (hB : m ≤ B * K) :
    (-9900000 ≤ w * v ∧ w * v ≤ 9900000) ∧ (-9900000000 ≤ w * v * 1000 ∧ w * v * 1000 ≤ 9900000000) ∧ (-9900000000000000 ≤ w * v * 1000 * K ∧ w * v * 1000 * K ≤ 9900000000000000) ∧ (-9900000000000000 ≤ (100 - w) * m ∧ (100 - w) * m ≤ 9900000000000000) ∧
    (-(100000000 * (K * 100)) ≤ w * v * 1000 * K + (100 - w) * m ∧ w * v * 1000 * K + (100 - w) * m ≤ 100000000 * (K * 100)) ∧
    nxA w v A * (K * 100) ≤ w * v * 1000 * K + (100 - w) * m ∧ w * v * 1000 * K + (100 - w) * m ≤ nxB w v B * (K * 100) := by
  have a1 := ml (c := w) hv.2 (by omega)
  have a2 := ml (c := w) hv.1 (by omega)
  have b1 : w * v * 1000 * K ≤ w * 100000000 * K := mm (by omega) (by omega)
  have b2 : w * (-100000000) * K ≤ w * v * 1000 * K := mm (by omega) (by omega)
  have c1 : (100 - w) * m ≤ (100 - w) * (100000000 * K) := ml hm.2 (by omega)
  have c2 : (100 - w) * (-(100000000 * K)) ≤ (100 - w) * m := ml hm.1 (by omega)
  have d1 : w * 100000000 * K = 100000000 * (w * K) := by rw [Int.mul_comm w, Int.mul_assoc]
  have d2 : w * (-100000000) * K = -(100000000 * (w * K)) := by rw [Int.mul_neg, Int.neg_mul, d1]
  have d3 : (100 - w) * (100000000 * K) = 10000000000 * K - 100000000 * (w * K) := by rw [Int.sub_mul, Int.mul_left_comm w]; omega
  have d4 : (100 - w) * (-(100000000 * K)) = -(10000000000 * K - 100000000 * (w * K)) := by rw [Int.mul_neg, d3]
  have wk : 0 ≤ w * K := Int.mul_nonneg (by omega) (by omega)
  have wk2 : w * K ≤ 99 * K := mm hw.2 (by omega)
  have wk3 : K ≤ w * K := by have := mm (a := 1) (b := w) (c := K) hw.1 (by omega); omega
  rw [d1] at b1
  rw [d2] at b2
  rw [d3] at c1
  rw [d4] at c2
  have eA : nxA w v A * 100 ≤ w * v * 1000 + (100 - w) * A := (dn_spec (x := w * v * 1000 + (100 - w) * A) (d := 100) (by omega)).1
  have eB : w * v * 1000 + (100 - w) * B ≤ nxB w v B * 100 := (up_spec (x := w * v * 1000 + (100 - w) * B) (d := 100) (by omega)).2
  have fA := mm (c := K) eA (by omega)
  have fB := mm (c := K) eB (by omega)
  have gA : (100 - w) * (A * K) ≤ (100 - w) * m := ml hA (by omega)
  have gB : (100 - w) * m ≤ (100 - w) * (B * K) := ml hB (by omega)
  rw [Int.add_mul, Int.mul_assoc (100 - w) A K] at fA
  rw [Int.add_mul, Int.mul_assoc (100 - w) B K] at fB
  have kA : nxA w v A * 100 * K = nxA w v A * (K * 100) := by rw [Int.mul_assoc, Int.mul_comm 100 K]
  have kB : nxB w v B * 100 * K = nxB w v B * (K * 100) := by rw [Int.mul_assoc, Int.mul_comm 100 K]
  rw [kA] at fA
  rw [kB] at fB
  generalize w * K = wK at *
  generalize w * v * 1000 * K = P at *
  generalize (100 - w) * m = Q at *
  generalize w * v = wv at *
  refine ⟨by omega, by omega, by omega, by omega, by omega, by omega, by omega⟩
/-- a sample's step: what is lacking -/
theorem hold_lack {w K L C D : Int} (hw : 1 ≤ w ∧ w ≤ 99) (hK : 1 ≤ K ∧ K ≤ 1000000) (hL : 1 ≤ L ∧ L ≤ K * K) (hC : C * (K * K) ≤ L * 1000000) (hD : L * 1000000 ≤ D * (K * K)) :
    (1 ≤ (100 - w) * (100 - w) ∧ (100 - w) * (100 - w) ≤ 9801) ∧ (1 ≤ L * ((100 - w) * (100 - w)) ∧ L * ((100 - w) * (100 - w)) ≤ K * 100 * (K * 100)) ∧ (1 ≤ K * 100 * (K * 100) ∧ K * 100 * (K * 100) ≤ 10000000000000000) ∧
    nxC w C * (K * 100 * (K * 100)) ≤ L * ((100 - w) * (100 - w)) * 1000000 ∧ L * ((100 - w) * (100 - w)) * 1000000 ≤ nxD w D * (K * 100 * (K * 100)) := by
  have v1 := Int.mul_le_mul (a := 100 - w) (b := 100 - w) (c := 99) (d := 99) (by omega) (by omega) (by omega) (by omega)
  have v2 := Int.mul_le_mul (a := 1) (b := 1) (c := 100 - w) (d := 100 - w) (by omega) (by omega) (by omega) (by omega)
  have k1 := Int.mul_le_mul (a := K) (b := K) (c := 1000000) (d := 1000000) (by omega) (by omega) (by omega) (by omega)
  have e0 : K * 100 * (K * 100) = 10000 * (K * K) := by rw [Int.mul_assoc K 100, Int.mul_left_comm 100 K 100, ← Int.mul_assoc K K]; omega
  have eC : nxC w C * 10000 ≤ (100 - w) * (100 - w) * C := (dn_spec (x := (100 - w) * (100 - w) * C) (d := 10000) (by omega)).1
  have eD : (100 - w) * (100 - w) * D ≤ nxD w D * 10000 := (up_spec (x := (100 - w) * (100 - w) * D) (d := 10000) (by omega)).2
  rw [e0]
  generalize (100 - w) * (100 - w) = V at *
  have kk : 0 ≤ K * K := by omega
  generalize K * K = KK at *
  have l1 : L * V ≤ KK * V := mm hL.2 (by omega)
  have l2 : KK * V ≤ KK * 9801 := ml (by omega) (by omega)
  have l3 := Int.mul_le_mul (a := 1) (b := 1) (c := L) (d := V) hL.1 (by omega) (by omega) (by omega)
  have fC := mm (c := KK) eC (by omega)
  have fD := mm (c := KK) eD (by omega)
  have gC : V * (C * KK) ≤ V * (L * 1000000) := ml hC (by omega)
  have gD : V * (L * 1000000) ≤ V * (D * KK) := ml hD (by omega)
  have h1 : V * (L * 1000000) = L * V * 1000000 := by rw [← Int.mul_assoc, Int.mul_comm V L]
  have h2 : nxC w C * 10000 * KK = nxC w C * (10000 * KK) := Int.mul_assoc ..
  have h3 : nxD w D * 10000 * KK = nxD w D * (10000 * KK) := Int.mul_assoc ..
  rw [h2, Int.mul_assoc V C KK] at fC
  rw [h3, Int.mul_assoc V D KK] at fD
  rw [h1] at gC gD
  refine ⟨by omega, by omega, by omega, by omega, by omega⟩
theorem sq_out {R x k g : Int} (hR : 0 ≤ R) (hk : 1 ≤ k) (hg : 1 ≤ g) (hx : (R + 1) * k ≤ x) : R * R * g * (k * k) < x * x * g := by
  have p0 : 0 ≤ (R + 1) * k := Int.mul_nonneg (by omega) (by omega)
  have p1 := Int.mul_le_mul (a := (R + 1) * k) (b := (R + 1) * k) (c := x) (d := x) hx hx p0 (by omega)
  have e1 : (R + 1) * k * ((R + 1) * k) = (R + 1) * (R + 1) * (k * k) := by ac_rfl
  have e2 : (R + 1) * (R + 1) = R * R + (2 * R + 1) := by rw [Int.add_mul, Int.mul_add, Int.one_mul, Int.mul_one]; omega
  have k1 := Int.mul_le_mul (a := 1) (b := 1) (c := k) (d := k) hk hk (by omega) (by omega)
  rw [e1, e2, Int.add_mul] at p1
  have k2 : 1 * (k * k) ≤ (2 * R + 1) * (k * k) := mm (by omega) (by omega)
  have p2 : R * R * (k * k) + 1 ≤ x * x := by omega
  have p3 := mm (c := g) p2 (by omega)
  rw [Int.add_mul, Int.one_mul] at p3
  have e3 : R * R * (k * k) * g = R * R * g * (k * k) := by ac_rfl
  rw [e3] at p3
  omega
theorem sq_in {r x k g : Int} (hr : 0 ≤ r) (hk : 1 ≤ k) (hg : 1 ≤ g) (h1 : x ≤ r * k) (h2 : -(r * k) ≤ x) : x * x * g ≤ r * r * g * (k * k) := by
  have p1 : x * x ≤ r * k * (r * k) := by
    by_cases h0 : 0 ≤ x
    · exact Int.mul_le_mul h1 h1 h0 (by omega)
    · have := Int.mul_le_mul (a := -x) (b := -x) (c := r * k) (d := r * k) (by omega) (by omega) (by omega) (by omega)
      rw [Int.neg_mul_neg] at this
      exact this
  have p2 := mm (c := g) p1 (by omega)
  have e1 : r * k * (r * k) * g = r * r * g * (k * k) := by ac_rfl
  rw [e1] at p2
  exact p2
theorem rc_lo {S w D : Int} (hw : 1 ≤ w ∧ w ≤ 99) (hS : 1 ≤ S ∧ S ≤ 1000000) (hD : 0 ≤ D ∧ D ≤ 1000000) : 0 ≤ rcLo S w D ∧ rcLo S w D * rcLo S w D * (200 - w) ≤ vaZ S w D := by
  obtain ⟨⟨h1, h2⟩, _⟩ := rc_nums hw hS hD
  obtain ⟨r0, r1, r2⟩ := rootZ_spec h1
  unfold rcLo
  refine ⟨r0, ?_⟩
  have a1 := mm (c := 200 - w) r1 (by omega)
  have a2 := Int.ediv_mul_le (vaZ S w D) (b := 200 - w) (by omega)
  omega
theorem rc_hi {S w C : Int} (hw : 1 ≤ w ∧ w ≤ 99) (hS : 1 ≤ S ∧ S ≤ 1000000) (hC : 0 ≤ C ∧ C ≤ 1000000) : 0 ≤ rcHi S w C ∧ vaZ S w C ≤ rcHi S w C * rcHi S w C * (200 - w) := by
  obtain ⟨⟨h1, h2⟩, h3, h4⟩ := rc_nums hw hS hC
  have e := Int.mul_ediv_add_emod (vaZ S w C) (200 - w)
  have hl := Int.emod_lt_of_pos (vaZ S w C) (show 0 < 200 - w by omega)
  unfold rcHi
  have hp : vaZ S w C ≤ (vaZ S w C / (200 - w) + (if vaZ S w C % (200 - w) = 0 then 0 else 1)) * (200 - w) := by
    rw [Int.add_mul, Int.mul_comm (vaZ S w C / (200 - w))]
    split
    · omega
    · rw [Int.one_mul]; omega
  have hq : 0 ≤ vaZ S w C / (200 - w) + (if vaZ S w C % (200 - w) = 0 then 0 else 1) := by split <;> omega
  generalize vaZ S w C / (200 - w) + (if vaZ S w C % (200 - w) = 0 then 0 else 1) = p at *
  obtain ⟨r0, r1, r2⟩ := rootZ_spec hq
  have hu : 0 ≤ upZ p ∧ p ≤ upZ p * upZ p := by
    unfold upZ
    split
    · omega
    · omega
  exact ⟨hu.1, Int.le_trans hp (mm hu.2 (by omega))⟩
/-- what is told of the mean is so -/
theorem hold_verd {w S k L M T A B C D d : Int} (hw : 1 ≤ w ∧ w ≤ 99) (hS : 1 ≤ S ∧ S ≤ 1000000) (hk : 1 ≤ k) (hA : A * k ≤ M) (hB : M ≤ B * k) (hC : C * (k * k) ≤ L * 1000000) (hD : L * 1000000 ≤ D * (k * k)) (hCr : 0 ≤ C ∧ C ≤ 1000000) (hDr : 0 ≤ D ∧ D ≤ 1000000)
    (hd : (0 ≤ M - 1000 * T * k ∧ d = M - 1000 * T * k) ∨ (M - 1000 * T * k < 0 ∧ d = -(M - 1000 * T * k))) :
    (veZ T A B (rcLo S w D) (rcHi S w C) = 1 → 9 * w * 1000000 * (S * S) * (k * k - L) < d * d * (200 - w)) ∧
    (veZ T A B (rcLo S w D) (rcHi S w C) = 0 → ¬ 9 * w * 1000000 * (S * S) * (k * k - L) < d * d * (200 - w)) := by
  obtain ⟨lo0, lo1⟩ := rc_lo hw hS hDr
  obtain ⟨hi0, hi1⟩ := rc_hi hw hS hCr
  have hQ : 0 ≤ S * S * (9 * w) := (vaZ_rng hw hS hCr).2.1.1
  have kk : 1 ≤ k * k := by have := Int.mul_le_mul (a := 1) (b := 1) (c := k) (d := k) hk hk (by omega) (by omega); omega
  have eL : 9 * w * 1000000 * (S * S) * (k * k - L) = S * S * (9 * w) * (1000000 * (k * k - L)) := by ac_rfl
  have eT : 1000 * T * k = T * 1000 * k := by ac_rfl
  have vC : vaZ S w C * (k * k) = S * S * (9 * w) * ((1000000 - C) * (k * k)) := by unfold vaZ; rw [Int.mul_assoc]
  have vD : vaZ S w D * (k * k) = S * S * (9 * w) * ((1000000 - D) * (k * k)) := by unfold vaZ; rw [Int.mul_assoc]
  rw [eL]
  rw [eT] at hd
  have xA : (A - T * 1000) * k ≤ M - T * 1000 * k := by rw [Int.sub_mul]; omega
  have xB : M - T * 1000 * k ≤ (B - T * 1000) * k := by rw [Int.sub_mul]; omega
  have cC : 1000000 * (k * k - L) ≤ (1000000 - C) * (k * k) := by rw [Int.sub_mul]; omega
  have cD : (1000000 - D) * (k * k) ≤ 1000000 * (k * k - L) := by rw [Int.sub_mul]; omega
  have lC : S * S * (9 * w) * (1000000 * (k * k - L)) ≤ vaZ S w C * (k * k) := by rw [vC]; exact ml cC hQ
  have lD : vaZ S w D * (k * k) ≤ S * S * (9 * w) * (1000000 * (k * k - L)) := by rw [vD]; exact ml cD hQ
  have hiK := mm (c := k * k) hi1 (by omega)
  have loK := mm (c := k * k) lo1 (by omega)
  unfold veZ
  generalize M - T * 1000 * k = z at *
  generalize A - T * 1000 = X at *
  generalize B - T * 1000 = Y at *
  generalize rcLo S w D = r at *
  generalize rcHi S w C = R at *
  have dd : d * d = z * z := by
    rcases hd with ⟨_, e⟩ | ⟨_, e⟩
    · rw [e]
    · rw [e, Int.neg_mul_neg]
  rw [dd]
  constructor
  · intro h
    by_cases c1 : R < X
    · have s := sq_out (R := R) (x := z) (k := k) (g := 200 - w) hi0 hk (by omega) (Int.le_trans (mm (show R + 1 ≤ X by omega) (by omega)) xA)
      omega
    · by_cases c2 : Y < 0 - R
      · have y1 := mm (c := k) (show R + 1 ≤ -Y by omega) (by omega)
        rw [Int.neg_mul] at y1
        have s := sq_out (R := R) (x := -z) (k := k) (g := 200 - w) hi0 hk (by omega) (by omega)
        rw [Int.neg_mul_neg] at s
        omega
      · rw [if_neg c1, if_neg c2] at h
        split at h <;> (try split at h) <;> omega
  · intro h
    have c : Y ≤ r ∧ 0 - r ≤ X := by
      by_cases c1 : R < X
      · rw [if_pos c1] at h; omega
      · by_cases c2 : Y < 0 - R
        · rw [if_neg c1, if_pos c2] at h; omega
        · rw [if_neg c1, if_neg c2] at h
          split at h
          · split at h
            · exact ⟨by assumption, by assumption⟩
            · omega
          · omega
    have y1 := mm (c := k) c.1 (by omega)
    have y2 := mm (c := k) (show -r ≤ X by omega) (by omega)
    rw [Int.neg_mul] at y2
    have s := sq_in (r := r) (x := z) (k := k) (g := 200 - w) lo0 hk (by omega) (by omega) (by omega)
    omega
end Go.Proofs.Ytlhmhcjpdpakkaa.X
