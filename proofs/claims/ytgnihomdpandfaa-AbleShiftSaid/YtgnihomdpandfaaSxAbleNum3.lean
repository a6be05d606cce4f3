/-
  What samples that are moved, turned or doubled are worth, as numbers.
-/
import Derived.Test.YtgnihomdpandfaaSxAbleNum2
namespace Go.Proofs.Ytgnihomdpandfaa.X
open Go Go.SX Go.RowKit
set_option linter.unusedVariables false
def bothL (S : Int) : List Int → List Int
  | [] => []
  | x :: r => x :: (S - x) :: bothL S r
theorem bothL_snoc (S x : Int) : ∀ l : List Int, bothL S (l ++ [x]) = bothL S l ++ [x, S - x]
  | [] => rfl
  | y :: r => by simp only [List.cons_append, bothL, bothL_snoc S x r]
theorem bothL_len (S : Int) : ∀ l : List Int, (bothL S l).length = 2 * l.length
  | [] => rfl
  | y :: r => by simp only [bothL, List.length_cons, bothL_len S r]; omega
theorem bothL_sum (S : Int) : ∀ l : List Int, sumL (bothL S l) = (l.length : Int) * S
  | [] => by simp [bothL, sumL]
  | y :: r => by
    simp only [bothL, sumL, bothL_sum S r, List.length_cons]
    rw [Int.natCast_add, Int.add_mul]; simp; omega
theorem bothL_mem {S y : Int} : ∀ {l : List Int}, y ∈ bothL S l → ∃ x ∈ l, y = x ∨ y = S - x
  | [], h => by cases h
  | x :: r, h => by
    simp only [bothL, List.mem_cons] at h
    rcases h with h | h | h
    · exact ⟨x, List.mem_cons_self .., .inl h⟩
    · exact ⟨x, List.mem_cons_self .., .inr h⟩
    · obtain ⟨z, hz, hy⟩ := bothL_mem h
      exact ⟨z, List.mem_cons_of_mem _ hz, hy⟩
/-- of samples that are within, and what may be asked -/
theorem ab_list {L : List Int} {a b k : Int} (h : inS L) (hl : (L.length : Int) ≤ 1000) (hw : -1000000 ≤ a ∧ b ≤ 1000000 ∧ a < b) (hk : 1 ≤ k ∧ k ≤ 1000) :
    (abOK (L.length : Int) (sumL L) 0 (sqL L) (minS L) (maxS L) a b k ↔ 2 ≤ (L.length : Int) ∧ pairL L ≠ 0) ∧ abE (L.length : Int) (sumL L) 0 (sqL L) (minS L) (maxS L) a b k = (if 2 ≤ (L.length : Int) then (if pairL L = 0 then 6 else 0) else 12) := by
  have st0 := of_stOK h (by omega)
  have eP : (L.length : Int) * sqL L - sumL L * sumL L = pairL L := (pairL_eq L).symm
  constructor
  · constructor
    · rintro ⟨_, _, _, h4, h5⟩
      rw [val0, eP] at h5
      exact ⟨h4.1, h5⟩
    · rintro ⟨h1, h2⟩
      exact ⟨st0, hw, hk, ⟨h1, hl⟩, by rw [val0, eP]; exact h2⟩
  · unfold abE
    rw [if_pos ⟨st0, hw⟩, if_pos hk, val0, eP]
    simp only [hl, if_true]
theorem ppA_move (n a b k c : Int) : ppA n (a + c) (b + c) k = ppA n a b k := by
  unfold ppA
  rw [show b + c - (a + c) = b - a by omega]
theorem ppA_turn (n a b k : Int) : ppA n (-b) (-a) k = ppA n a b k := by
  unfold ppA
  rw [show -a - -b = b - a by omega]
theorem near_move (n s a b c : Int) : nearZ n (s + c * n) (a + c) (b + c) = nearZ n s a b := by
  unfold nearZ
  rw [Int.add_mul, Int.add_mul, show s + c * n - (a * n + c * n) = s - a * n by omega, show b * n + c * n - (s + c * n) = b * n - s by omega]
theorem near_turn (n s a b : Int) : nearZ n (-s) (-b) (-a) = nearZ n s a b := by
  unfold nearZ
  rw [Int.neg_mul, Int.neg_mul, show -s - -(b * n) = b * n - s by omega, show -(a * n) - -s = s - a * n by omega]
  split <;> split <;> omega
theorem pk_move (n s a b k c SP : Int) : pkLo n (s + c * n) (a + c) (b + c) k SP = pkLo n s a b k SP ∧ pkHi n (s + c * n) (a + c) (b + c) k SP = pkHi n s a b k SP := by
  unfold pkLo pkHi pkA
  rw [near_move]
  exact ⟨rfl, rfl⟩
theorem pk_turn (n s a b k SP : Int) : pkLo n (-s) (-b) (-a) k SP = pkLo n s a b k SP ∧ pkHi n (-s) (-b) (-a) k SP = pkHi n s a b k SP := by
  unfold pkLo pkHi pkA
  rw [near_turn]
  exact ⟨rfl, rfl⟩
theorem pk_both {m a b k SP : Int} (hw : -1000000 ≤ a ∧ b ≤ 1000000 ∧ a < b) (hk : 1 ≤ k ∧ k ≤ 1000) (hm : 1 ≤ m) (hS : 1 ≤ SP) : pkLo (2 * m) (m * (a + b)) a b k SP = rtLo (ppA (2 * m) a b k) (SP * 36) ∧ pkHi (2 * m) (m * (a + b)) a b k SP = rtHi (ppA (2 * m) a b k) (SP * 36) := by
  have hN : nearZ (2 * m) (m * (a + b)) a b = m * (b - a) := by
    unfold nearZ
    rw [Int.mul_add, Int.mul_sub, Int.mul_comm b, Int.mul_comm a, Int.mul_assoc, Int.mul_assoc]
    split <;> omega
  have h0 : 0 ≤ m * (b - a) := Int.mul_nonneg (by omega) (by omega)
  have hA : 0 ≤ pkA (2 * m) (m * (a + b)) a b k := by
    unfold pkA
    exact Int.mul_nonneg (Int.mul_nonneg (Int.mul_nonneg (sq_nonneg _) (by omega)) (by omega)) (by omega)
  have hB : 0 ≤ ppA (2 * m) a b k := by
    unfold ppA
    exact Int.mul_nonneg (Int.mul_nonneg (Int.mul_nonneg (Int.mul_nonneg (sq_nonneg _) (by omega)) (by omega)) (by omega)) (by omega)
  have hD : 1 ≤ SP * (9 * (2 * m)) := Int.mul_le_mul (a := 1) (b := 1) hS (by omega) (by omega) (by omega)
  have e := rt_eq hA hD hB (show 1 ≤ SP * 36 by omega) (pk_mid hN)
  unfold pkLo pkHi
  rw [if_neg (by omega), if_neg (by omega)]
  exact e
end Go.Proofs.Ytgnihomdpandfaa.X
