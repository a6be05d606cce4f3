/-
  Sums over samples, as numbers.
-/
import Derived.Test.YtjbokdekofiihaaSxMul
namespace Go.Proofs.Ytjbokdekofiihaa.X
open Go Go.SX Go.RowKit
set_option linter.unusedVariables false
def sumL : List Int → Int
  | [] => 0
  | x :: r => x + sumL r
def sqL : List Int → Int
  | [] => 0
  | x :: r => x * x + sqL r
theorem sumL_append : ∀ (a b : List Int), sumL (a ++ b) = sumL a + sumL b
  | [], b => by simp [sumL]
  | x :: r, b => by simp only [List.cons_append, sumL, sumL_append r b]; omega
theorem sqL_append : ∀ (a b : List Int), sqL (a ++ b) = sqL a + sqL b
  | [], b => by simp [sqL]
  | x :: r, b => by simp only [List.cons_append, sqL, sqL_append r b]; omega
theorem sq_nonneg (x : Int) : 0 ≤ x * x := by
  by_cases h : 0 ≤ x
  · exact Int.mul_nonneg h h
  · have := Int.mul_nonneg (a := -x) (b := -x) (by omega) (by omega)
    rw [Int.neg_mul_neg] at this
    exact this
theorem sqL_nonneg : ∀ l : List Int, 0 ≤ sqL l
  | [] => by simp [sqL]
  | x :: r => by have := sq_nonneg x; have := sqL_nonneg r; simp only [sqL]; omega
/-- all differences to one number, squared -/
theorem diff_nonneg (x : Int) : ∀ l : List Int, 0 ≤ (l.length : Int) * (x * x) - 2 * (x * sumL l) + sqL l
  | [] => by simp [sumL, sqL]
  | y :: r => by
    have h1 := diff_nonneg x r
    have h2 := sq_nonneg (x - y)
    have e : (x - y) * (x - y) = x * x - 2 * (x * y) + y * y := by
      rw [Int.sub_mul, Int.mul_sub, Int.mul_sub, Int.mul_comm y x]; omega
    rw [e] at h2
    simp only [sumL, sqL, List.length_cons, Int.mul_add]
    have e2 : ((r.length + 1 : Nat) : Int) * (x * x) = (r.length : Int) * (x * x) + x * x := by
      rw [Int.natCast_add, Int.add_mul]; simp
    rw [e2]
    omega
/-- the squares are so many -/
theorem cauchy : ∀ l : List Int, sumL l * sumL l ≤ (l.length : Int) * sqL l
  | [] => by simp [sumL, sqL]
  | x :: r => by
    have h1 := cauchy r
    have h2 := diff_nonneg x r
    simp only [sumL, sqL, List.length_cons]
    have e2 : ((r.length + 1 : Nat) : Int) * (x * x + sqL r) = (r.length : Int) * (x * x) + (r.length : Int) * sqL r + x * x + sqL r := by
      rw [Int.natCast_add, Int.add_mul, Int.mul_add]; simp; omega
    have e1 : (x + sumL r) * (x + sumL r) = x * x + 2 * (x * sumL r) + sumL r * sumL r := by
      rw [Int.add_mul, Int.mul_add, Int.mul_add, Int.mul_comm (sumL r) x]; omega
    rw [e1, e2]
    omega
theorem sum_rng {K : Int} : ∀ l : List Int, (∀ x ∈ l, -K ≤ x ∧ x ≤ K) → -(K * l.length) ≤ sumL l ∧ sumL l ≤ K * l.length
  | [], _ => by simp [sumL]
  | x :: r, h => by
    have h1 := h x (List.mem_cons_self ..)
    have h2 := sum_rng r (fun y hy => h y (List.mem_cons_of_mem _ hy))
    have e : K * ((x :: r).length : Int) = K * (r.length : Int) + K := by
      rw [List.length_cons, Int.natCast_add, Int.mul_add]; simp
    rw [e]
    simp only [sumL]
    omega
theorem take_next {xs : List Int} {i : Nat} (h : i < xs.length) : xs.take (i + 1) = xs.take i ++ [xs.getD i 0] := by
  rw [List.take_add_one, List.getD_eq_getElem?_getD, List.getElem?_eq_getElem h]
  rfl
theorem sq_rng {K : Int} (hK : 0 ≤ K) : ∀ l : List Int, (∀ x ∈ l, -K ≤ x ∧ x ≤ K) → sqL l ≤ K * K * l.length
  | [], _ => by simp [sqL]
  | x :: r, h => by
    have h1 := h x (List.mem_cons_self ..)
    have h2 := sq_rng hK r (fun y hy => h y (List.mem_cons_of_mem _ hy))
    have e : K * K * ((x :: r).length : Int) = K * K * (r.length : Int) + K * K := by
      rw [List.length_cons, Int.natCast_add, Int.mul_add]; simp
    have q : x * x ≤ K * K := by
      by_cases h0 : 0 ≤ x
      · exact Int.mul_le_mul h1.2 h1.2 h0 hK
      · have := Int.mul_le_mul (a := -x) (b := -x) (c := K) (d := K) (by omega) (by omega) (by omega) hK
        rw [Int.neg_mul_neg] at this
        exact this
    rw [e]
    simp only [sqL]
    omega
/-- the least and the greatest -/
def minS : List Int → Int
  | [] => 0
  | x :: r => r.foldl min x
def maxS : List Int → Int
  | [] => 0
  | x :: r => r.foldl max x
theorem minS_snoc (l : List Int) (x : Int) : minS (l ++ [x]) = if l.length = 0 then x else min (minS l) x := by
  cases l with
  | nil => simp [minS]
  | cons y r => simp [minS, List.foldl_append]
theorem maxS_snoc (l : List Int) (x : Int) : maxS (l ++ [x]) = if l.length = 0 then x else max (maxS l) x := by
  cases l with
  | nil => simp [maxS]
  | cons y r => simp [maxS, List.foldl_append]
theorem foldmin_le : ∀ (r : List Int) (x : Int), r.foldl min x ≤ x ∧ ∀ y ∈ r, r.foldl min x ≤ y
  | [], x => ⟨Int.le_refl x, fun _ h => nomatch h⟩
  | z :: r, x => by
    obtain ⟨h1, h2⟩ := foldmin_le r (min x z)
    simp only [List.foldl_cons]
    refine ⟨by omega, fun y hy => ?_⟩
    rcases List.mem_cons.1 hy with rfl | hy
    · omega
    · exact h2 y hy
theorem foldmax_le : ∀ (r : List Int) (x : Int), x ≤ r.foldl max x ∧ ∀ y ∈ r, y ≤ r.foldl max x
  | [], x => ⟨Int.le_refl x, fun _ h => nomatch h⟩
  | z :: r, x => by
    obtain ⟨h1, h2⟩ := foldmax_le r (max x z)
    simp only [List.foldl_cons]
    refine ⟨by omega, fun y hy => ?_⟩
    rcases List.mem_cons.1 hy with rfl | hy
    · omega
    · exact h2 y hy
theorem minS_le {l : List Int} {y : Int} (h : y ∈ l) : minS l ≤ y := by
  cases l with
  | nil => cases h
  | cons x r =>
    obtain ⟨h1, h2⟩ := foldmin_le r x
    rcases List.mem_cons.1 h with rfl | h
    · exact h1
    · exact h2 y h
theorem maxS_ge {l : List Int} {y : Int} (h : y ∈ l) : y ≤ maxS l := by
  cases l with
  | nil => cases h
  | cons x r =>
    obtain ⟨h1, h2⟩ := foldmax_le r x
    rcases List.mem_cons.1 h with rfl | h
    · exact h1
    · exact h2 y h
/-- the sum is between so many of the least and of the greatest -/
theorem sum_ge {m : Int} : ∀ l : List Int, (∀ x ∈ l, m ≤ x) → (l.length : Int) * m ≤ sumL l
  | [], _ => by simp [sumL]
  | x :: r, h => by
    have h1 := h x (List.mem_cons_self ..)
    have h2 := sum_ge r (fun y hy => h y (List.mem_cons_of_mem _ hy))
    have e : ((x :: r).length : Int) * m = (r.length : Int) * m + m := by
      rw [List.length_cons, Int.natCast_add, Int.add_mul]; simp
    rw [e]
    simp only [sumL]
    omega
theorem sum_le {m : Int} : ∀ l : List Int, (∀ x ∈ l, x ≤ m) → sumL l ≤ (l.length : Int) * m
  | [], _ => by simp [sumL]
  | x :: r, h => by
    have h1 := h x (List.mem_cons_self ..)
    have h2 := sum_le r (fun y hy => h y (List.mem_cons_of_mem _ hy))
    have e : ((x :: r).length : Int) * m = (r.length : Int) * m + m := by
      rw [List.length_cons, Int.natCast_add, Int.add_mul]; simp
    rw [e]
    simp only [sumL]
    omega
/-- the squares of all differences of two -/
def difL (x : Int) : List Int → Int
  | [] => 0
  | y :: r => (x - y) * (x - y) + difL x r
def pairL : List Int → Int
  | [] => 0
  | x :: r => difL x r + pairL r
theorem difL_eq (x : Int) : ∀ l : List Int, difL x l = (l.length : Int) * (x * x) - 2 * (x * sumL l) + sqL l
  | [] => by simp [difL, sumL, sqL]
  | y :: r => by
    have h1 := difL_eq x r
    have e : (x - y) * (x - y) = x * x - 2 * (x * y) + y * y := by
      rw [Int.sub_mul, Int.mul_sub, Int.mul_sub, Int.mul_comm y x]; omega
    have e2 : ((r.length + 1 : Nat) : Int) * (x * x) = (r.length : Int) * (x * x) + x * x := by
      rw [Int.natCast_add, Int.add_mul]; simp
    simp only [difL, sumL, sqL, List.length_cons, Int.mul_add]
    rw [h1, e, e2]
    omega
theorem pairL_eq : ∀ l : List Int, pairL l = (l.length : Int) * sqL l - sumL l * sumL l
  | [] => by simp [pairL, sumL, sqL]
  | x :: r => by
    have h1 := pairL_eq r
    have h2 := difL_eq x r
    have e2 : ((r.length + 1 : Nat) : Int) * (x * x + sqL r) = (r.length : Int) * (x * x) + (r.length : Int) * sqL r + x * x + sqL r := by
      rw [Int.natCast_add, Int.add_mul, Int.mul_add]; simp; omega
    have e1 : (x + sumL r) * (x + sumL r) = x * x + 2 * (x * sumL r) + sumL r * sumL r := by
      rw [Int.add_mul, Int.mul_add, Int.mul_add, Int.mul_comm (sumL r) x]; omega
    simp only [pairL, sumL, sqL, List.length_cons]
    rw [h1, h2, e1, e2]
    omega
theorem difL_snoc (x y : Int) : ∀ l : List Int, difL x (l ++ [y]) = difL x l + (x - y) * (x - y)
  | [] => by simp [difL]
  | z :: r => by simp only [List.cons_append, difL, difL_snoc x y r]; omega
theorem difL_nonneg (x : Int) : ∀ l : List Int, 0 ≤ difL x l
  | [] => by simp [difL]
  | y :: r => by have := sq_nonneg (x - y); have := difL_nonneg x r; simp only [difL]; omega
theorem pairL_nonneg : ∀ l : List Int, 0 ≤ pairL l
  | [] => by simp [pairL]
  | x :: r => by have := difL_nonneg x r; have := pairL_nonneg r; simp only [pairL]; omega
theorem difL_zero (x : Int) : ∀ l : List Int, difL x l = 0 ↔ ∀ y ∈ l, y = x
  | [] => by simp [difL]
  | y :: r => by
    have h1 := sq_nonneg (x - y)
    have h2 := difL_nonneg x r
    have h3 := difL_zero x r
    have h4 : (x - y) * (x - y) = 0 ↔ y = x := by
      rw [Int.mul_eq_zero]
      omega
    constructor
    · intro h z hz
      simp only [difL] at h
      rcases List.mem_cons.1 hz with rfl | hz
      · exact h4.1 (by omega)
      · exact h3.1 (by omega) z hz
    · intro h
      have g1 := h4.2 (h y (List.mem_cons_self ..))
      have g2 := h3.2 (fun z hz => h z (List.mem_cons_of_mem _ hz))
      simp only [difL]
      omega
end Go.Proofs.Ytjbokdekofiihaa.X
