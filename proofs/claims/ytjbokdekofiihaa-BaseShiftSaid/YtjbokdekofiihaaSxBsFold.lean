/-
  A base behind rows of samples, as numbers.
-/
import Derived.Test.YtjbokdekofiihaaSxBsTk2
namespace Go.Proofs.Ytjbokdekofiihaa.X
open Go Go.SX
set_option linter.unusedVariables false
set_option linter.unusedSimpArgs false
/-- rows that may be: of one size, 25 at most, of samples that may be -/
def RowsOK (z : Int) (L : List (List Int)) : Prop := (1 ≤ z ∧ z ≤ 10) ∧ L.length ≤ 25 ∧ ∀ r ∈ L, (r.length : Int) = z ∧ inS r
/-- the sum, the last sample and the ranges of the first n rows -/
def bSn (L : List (List Int)) : Nat → Int
  | 0 => 0
  | n + 1 => bSn L n + sumL (L.getD n [])
def bLn (L : List (List Int)) : Nat → Int
  | 0 => 0
  | n + 1 => lastS (L.getD n [])
def bRn (z : Int) (L : List (List Int)) : Nat → Int
  | 0 => 0
  | n + 1 => bRn z L n + tkR z n (bLn L n) (L.getD n [])
theorem getD_row {L : List (List Int)} {n : Nat} (h : n < L.length) : L.getD n [] ∈ L := by
  have e : L.getD n [] = L[n] := by simp [List.getD, h]
  rw [e]; exact List.getElem_mem h
theorem last_in {r : List Int} (h : inS r) (h1 : 1 ≤ (r.length : Int)) : -1000000 ≤ lastS r ∧ lastS r ≤ 1000000 := by
  have hl := h _ (getD_mem (i := (r.length : Int) - 1) (by omega) (by omega))
  rw [show ((r.length : Int) - 1).toNat = r.length - 1 by omega] at hl
  exact hl
theorem bLn_rng {z : Int} {L : List (List Int)} (h : RowsOK z L) : ∀ n, n ≤ L.length → -1000000 ≤ bLn L n ∧ bLn L n ≤ 1000000
  | 0, _ => by show -1000000 ≤ (0 : Int) ∧ (0 : Int) ≤ 1000000; omega
  | n + 1, hn => by
    obtain ⟨h1, h2, h3⟩ := h
    obtain ⟨h4, h5⟩ := h3 _ (getD_row (show n < L.length by omega))
    show -1000000 ≤ lastS (L.getD n []) ∧ lastS (L.getD n []) ≤ 1000000
    exact last_in h5 (by omega)
theorem bSn_rng {z : Int} {L : List (List Int)} (h : RowsOK z L) : ∀ n : Nat, n ≤ L.length → -((n : Int) * z * 1000000) ≤ bSn L n ∧ bSn L n ≤ (n : Int) * z * 1000000
  | 0, _ => by unfold bSn; simp
  | n + 1, hn => by
    have ih := bSn_rng h n (by omega)
    obtain ⟨h1, h2, h3⟩ := h
    obtain ⟨h4, h5⟩ := h3 _ (getD_row (show n < L.length by omega))
    have hs := sum_rng (K := 1000000) _ h5
    rw [h4] at hs
    unfold bSn
    have e : ((n + 1 : Nat) : Int) * z = (n : Int) * z + z := by rw [Int.natCast_add, Int.add_mul]; simp
    rw [e]
    omega
theorem bRn_rng {z : Int} {L : List (List Int)} (h : RowsOK z L) : ∀ n : Nat, n ≤ L.length → 0 ≤ bRn z L n ∧ bRn z L n ≤ 2000000 * bsteps z n
  | 0, _ => by unfold bRn bsteps; simp
  | n + 1, hn => by
    have ih := bRn_rng h n (by omega)
    have hl := bLn_rng h n (by omega)
    obtain ⟨h1, h2, h3⟩ := h
    obtain ⟨h4, h5⟩ := h3 _ (getD_row (show n < L.length by omega))
    have hr := tkR_rng (z := z) (m := (n : Int)) h5 (by omega) (by omega) hl
    have h0 : z = 1 → n = 0 → tkR z (n : Int) (bLn L n) (L.getD n []) = 0 := fun a b => by unfold tkR; rw [if_pos a, if_pos (by omega)]
    show 0 ≤ bRn z L n + tkR z n (bLn L n) (L.getD n []) ∧ bRn z L n + tkR z n (bLn L n) (L.getD n []) ≤ 2000000 * bsteps z ((n + 1 : Nat) : Int)
    generalize bRn z L n = R at *
    generalize tkR z n (bLn L n) (L.getD n []) = K at *
    unfold bsteps at *
    by_cases hz : z = 1
    · simp only [if_pos hz] at ih ⊢
      by_cases hn0 : n = 0
      · have := h0 hz hn0
        subst hn0
        simp only [Int.natCast_zero] at ih ⊢
        omega
      · (repeat' split at ih) <;> (repeat' split) <;> omega
    · simp only [if_neg hz] at ih ⊢
      omega
/-- the base behind the first n rows is one that may be -/
theorem fold_ok {z : Int} {L : List (List Int)} (h : RowsOK z L) (n : Nat) (hn : n ≤ L.length) : BsOK z n (bSn L n) (bRn z L n) (bLn L n) := by
  have h1 := bSn_rng h n hn
  have h2 := bRn_rng h n hn
  have h3 := bLn_rng h n hn
  have h4 := h.2.1
  refine ⟨h.1, ⟨by omega, by omega⟩, h3, fun e => ?_, h1, h2⟩
  have : n = 0 := by omega
  subst this; rfl
/-- one more row is taken -/
theorem fold_take {z : Int} {L : List (List Int)} (h : RowsOK z L) (n : Nat) (hn : n < L.length) : tkE z n (bSn L n) (bRn z L n) (bLn L n) (L.getD n []) = 0 := by
  have h1 := fold_ok h n (by omega)
  obtain ⟨h4, h5⟩ := h.2.2 _ (getD_row hn)
  have h6 := h.2.1
  unfold tkE
  rw [if_pos ⟨h1, h4, h5⟩, if_neg (by omega)]
/-! ### what is told of points -/
theorem mean_pt (z m s x : Int) (h : z = 1 ∨ z ≠ 1) : (bpC z m s + bpD z m s x) * z = x * bpN z m := by
  unfold bpC bpD bpN
  by_cases hz : z = 1
  · simp only [if_pos hz]
    subst hz
    generalize 11280 * (m - 1) = d
    have e : d * (x * m - s) = d * (x * m) - d * s := Int.mul_sub ..
    rw [e, Int.mul_one, show d * s + (d * (x * m) - d * s) = d * (x * m) by omega, ← Int.mul_assoc, Int.mul_comm d x, Int.mul_assoc]
  · simp only [if_neg hz]
    have e : 30000 * s + 30000 * (x * m - s) = 30000 * (x * m) := by omega
    rw [e, ← Int.mul_assoc, Int.mul_right_comm 30000 x m, Int.mul_right_comm (30000 * m) x z, Int.mul_comm (30000 * m * z) x]
theorem mean_sum (z m s : Int) : bpC z m s * m * z = s * bpN z m := by
  unfold bpC bpN
  by_cases hz : z = 1
  · simp only [if_pos hz]
    subst hz
    rw [Int.mul_one, Int.mul_right_comm _ s m, Int.mul_comm _ s]
  · simp only [if_neg hz]
    rw [Int.mul_right_comm 30000 s m, Int.mul_right_comm (30000 * m) s z, Int.mul_comm _ s]
theorem mean_zero {z m s x : Int} (hm : 2 ≤ m) : bpD z m s x = 0 ↔ x * m = s := by
  unfold bpD
  have e : x * m - s = 0 ↔ x * m = s := by omega
  by_cases hz : z = 1
  · simp only [if_pos hz]
    rw [Int.mul_eq_zero, e]
    omega
  · simp only [if_neg hz]
    omega
theorem mean_diff (z m s x y : Int) : (bpD z m s x - bpD z m s y) * z = (x - y) * bpN z m := by
  have h1 := mean_pt z m s x (by omega)
  have h2 := mean_pt z m s y (by omega)
  rw [Int.add_mul] at h1 h2
  rw [Int.sub_mul, Int.sub_mul]
  omega
/-- the width of ranges -/
theorem wide_mono {z m r x y : Int} (hm : 0 ≤ bwM z m) (h : x ≤ y) : bwV z m r x ≤ bwV z m r y := by
  have e : x * bwM z m ≤ y * bwM z m := Int.mul_le_mul_of_nonneg_right h hm
  unfold bwV
  (repeat' split) <;> omega
theorem tab_one : ∀ n : Fin 11, 2 ≤ n.val → ftab 1 n.val ≤ 10000 ∧ 10000 < ftab 2 n.val := by decide
theorem wide_mean {z m r : Int} (hz : 1 ≤ z ∧ z ≤ 10) (hr : 0 ≤ r) (hm : 1 ≤ bwM z m) (hd : r % bwM z m = 0) : bwV z m r (r / bwM z m) = 0 := by
  have hk : 2 ≤ bwK z ∧ bwK z ≤ 10 := by unfold bwK; split <;> omega
  obtain ⟨k, hk2⟩ := Int.eq_ofNat_of_zero_le (show 0 ≤ bwK z by omega)
  have ht := tab_one ⟨k, by omega⟩ (by show 2 ≤ k; omega)
  have ht' : ftab 1 (bwK z) ≤ 10000 ∧ 10000 < ftab 2 (bwK z) := by rw [hk2]; exact ht
  have e : r / bwM z m * bwM z m = r := by
    have := Int.emod_add_mul_ediv r (bwM z m)
    rw [Int.mul_comm]; omega
  have e1 : ftab 1 (bwK z) * r ≤ 10000 * r := Int.mul_le_mul_of_nonneg_right ht'.1 hr
  have e2 : 10000 * r ≤ ftab 2 (bwK z) * r := Int.mul_le_mul_of_nonneg_right (by omega) hr
  unfold bwV
  rw [e]
  (repeat' split) <;> omega
theorem wide_zero {z m x : Int} (hm : 1 ≤ bwM z m) (hx : 0 ≤ x) : (x = 0 ↔ bwV z m 0 x = 0) ∧ 0 ≤ bwV z m 0 x := by
  have e : x = 0 ∨ 1 ≤ x * bwM z m := by
    by_cases h : x = 0
    · exact Or.inl h
    · exact Or.inr (by have := Int.mul_le_mul (a := 1) (b := 1) (c := x) (d := bwM z m) (by omega) hm (by omega) (by omega); omega)
  unfold bwV
  simp only [Int.mul_zero]
  rcases e with e | e
  · subst e; simp
  · have : ¬ x = 0 := fun h => by rw [h, Int.zero_mul] at e; omega
    rw [if_pos (by omega)]
    exact ⟨⟨fun h => absurd h this, fun h => by omega⟩, by omega⟩
end Go.Proofs.Ytjbokdekofiihaa.X
