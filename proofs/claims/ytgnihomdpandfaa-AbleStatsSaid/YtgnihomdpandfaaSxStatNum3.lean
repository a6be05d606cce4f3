/-
  Stats of samples that are moved or grown, as numbers.
-/
import Derived.Test.YtgnihomdpandfaaSxStatNum2
namespace Go.Proofs.Ytgnihomdpandfaa.X
open Go Go.SX Go.RowKit
set_option linter.unusedVariables false
theorem pair_rng2 {l : List Int} (h : inS l) (hl : (l.length : Int) ≤ 1000) : 0 ≤ pairL l ∧ pairL l ≤ 1000000000000000000 := by
  refine ⟨pairL_nonneg l, ?_⟩
  rw [pairL_eq]
  have h1 := sq_rng (K := 1000000) (by omega) l h
  have h2 := sq_nonneg (sumL l)
  have h3 := sqL_nonneg l
  have h4 : (l.length : Int) * sqL l ≤ 1000 * 1000000000000000 := Int.mul_le_mul hl (by omega) h3 (by omega)
  omega
theorem set_snoc {L : List Int} {i v : Int} (h0 : 0 ≤ i) (h : i < (L.length : Int)) : (L.set i.toNat v).take (i + 1).toNat = L.take i.toNat ++ [v] := by
  have hk : i.toNat < L.length := by omega
  rw [take_snoc h0 (by rw [List.length_set]; exact h), List.take_set_of_le (Nat.le_refl _)]
  congr 1
  simp [List.getD, hk]
theorem getD_set {L : List Int} {i v : Int} (h0 : 0 ≤ i) (h : i < (L.length : Int)) : (L.set i.toNat v).getD i.toNat 0 = v := by
  have hk : i.toNat < L.length := by omega
  simp [List.getD, hk]
theorem sumL_add (c : Int) : ∀ l : List Int, sumL (l.map (· + c)) = sumL l + c * (l.length : Int)
  | [] => by simp [sumL]
  | x :: r => by
    simp only [List.map_cons, sumL, sumL_add c r, List.length_cons]
    rw [Int.natCast_add, Int.mul_add]; simp; omega
theorem sumL_mul (c : Int) : ∀ l : List Int, sumL (l.map (· * c)) = sumL l * c
  | [] => by simp [sumL]
  | x :: r => by
    simp only [List.map_cons, sumL, sumL_mul c r, Int.add_mul]
theorem difL_add (c x : Int) : ∀ l : List Int, difL (x + c) (l.map (· + c)) = difL x l
  | [] => rfl
  | y :: r => by
    simp only [List.map_cons, difL, difL_add c x r]
    rw [show x + c - (y + c) = x - y by omega]
theorem pairL_add (c : Int) : ∀ l : List Int, pairL (l.map (· + c)) = pairL l
  | [] => rfl
  | x :: r => by simp only [List.map_cons, pairL, difL_add, pairL_add c r]
theorem difL_mul (c x : Int) : ∀ l : List Int, difL (x * c) (l.map (· * c)) = difL x l * (c * c)
  | [] => by simp [difL]
  | y :: r => by
    simp only [List.map_cons, difL, difL_mul c x r, Int.add_mul]
    congr 1
    rw [← Int.sub_mul, Int.mul_assoc, Int.mul_assoc]
    congr 1
    rw [← Int.mul_assoc, ← Int.mul_assoc, Int.mul_comm c]
theorem pairL_mul (c : Int) : ∀ l : List Int, pairL (l.map (· * c)) = pairL l * (c * c)
  | [] => by simp [pairL]
  | x :: r => by simp only [List.map_cons, pairL, difL_mul, pairL_mul c r, Int.add_mul]
theorem foldmin_add (c : Int) : ∀ (r : List Int) (x : Int), (r.map (· + c)).foldl min (x + c) = r.foldl min x + c
  | [], x => rfl
  | z :: r, x => by
    simp only [List.map_cons, List.foldl_cons]
    rw [show min (x + c) (z + c) = min x z + c by omega, foldmin_add c r]
theorem foldmax_add (c : Int) : ∀ (r : List Int) (x : Int), (r.map (· + c)).foldl max (x + c) = r.foldl max x + c
  | [], x => rfl
  | z :: r, x => by
    simp only [List.map_cons, List.foldl_cons]
    rw [show max (x + c) (z + c) = max x z + c by omega, foldmax_add c r]
theorem minS_add (c : Int) {l : List Int} (h : l ≠ []) : minS (l.map (· + c)) = minS l + c := by
  cases l with
  | nil => exact absurd rfl h
  | cons x r => exact foldmin_add c r x
theorem maxS_add (c : Int) {l : List Int} (h : l ≠ []) : maxS (l.map (· + c)) = maxS l + c := by
  cases l with
  | nil => exact absurd rfl h
  | cons x r => exact foldmax_add c r x
theorem inS_map {l : List Int} {f : Int → Int} (h : ∀ x ∈ l, -1000000 ≤ f x ∧ f x ≤ 1000000) : inS (l.map f) := by
  intro y hy
  obtain ⟨x, hx, rfl⟩ := List.mem_map.1 hy
  exact h x hx
theorem inI_inS {l : List Int} (h : inS l) : InI l := fun x hx => by have := h x hx; omega
theorem tdiv10 {x : Int} (h : -1000000 ≤ x ∧ x ≤ 1000000) : -100000 ≤ x.tdiv 10 ∧ x.tdiv 10 ≤ 100000 := by
  by_cases k : 0 ≤ x
  · rw [Int.tdiv_eq_ediv_of_nonneg k]; omega
  · have e : x.tdiv 10 = -((-x).tdiv 10) := by rw [Int.neg_tdiv, Int.neg_neg]
    rw [e, Int.tdiv_eq_ediv_of_nonneg (by omega)]; omega
theorem mul_10 {y c : Int} (hy : -100000 ≤ y ∧ y ≤ 100000) (hc : -10 < c ∧ c < 10) : -900000 ≤ y * c ∧ y * c ≤ 900000 := by
  by_cases k : 0 ≤ c
  · have q1 := Int.mul_le_mul_of_nonneg_right hy.2 k
    have q2 := Int.mul_le_mul_of_nonneg_right hy.1 k
    omega
  · have q1 := Int.mul_le_mul_of_nonneg_right hy.2 (show 0 ≤ -c by omega)
    have q2 := Int.mul_le_mul_of_nonneg_right hy.1 (show 0 ≤ -c by omega)
    simp only [Int.mul_neg] at q1 q2
    omega
theorem sq_10 {c : Int} (hc : -10 < c ∧ c < 10) : 0 ≤ c * c ∧ c * c ≤ 81 := by
  rw [← abs_sq]
  have h1 : 0 ≤ absZ c ∧ absZ c ≤ 9 := by unfold absZ; split <;> omega
  exact ⟨Int.mul_nonneg h1.1 h1.1, Int.mul_le_mul h1.2 h1.2 h1.1 (by omega)⟩
theorem ne_nil_of_len {l : List Int} (h : ¬ (l.length : Int) = 0) : l ≠ [] := fun k => h (by rw [k]; rfl)
end Go.Proofs.Ytgnihomdpandfaa.X
