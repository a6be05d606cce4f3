/-
  Stats of samples, as numbers.
-/
import Derived.Test.YtjbokdekofiihaaSxStatNum
import Derived.Test.YtjbokdekofiihaaSxAbs
namespace Go.Proofs.Ytjbokdekofiihaa.X
open Go Go.SX Go.RowKit
set_option linter.unusedVariables false
def stOK (n s h l mn mx : Int) : Prop :=
  (n = 0 ∧ s = 0 ∧ h = 0 ∧ l = 0 ∧ mn = 0 ∧ mx = 0) ∨ ((1 ≤ n ∧ n ≤ 1000000000) ∧ mn ≤ mx ∧ -1000000 ≤ mn ∧ mx ≤ 1000000 ∧ n * mn ≤ s ∧ s ≤ n * mx ∧ val h l ≤ n * 1000000000000 ∧ s * s ≤ n * val h l)
instance decSt (n s h l mn mx : Int) : Decidable (stOK n s h l mn mx) := by unfold stOK; exact inferInstance
theorem abs_sq (s : Int) : absZ s * absZ s = s * s := by
  unfold absZ; split
  · rw [Int.neg_mul_neg]
  · rfl
theorem sq_le15 {s : Int} (h : -1000000000000000 ≤ s ∧ s ≤ 1000000000000000) : 0 ≤ s * s ∧ s * s ≤ 1000000000000000000000000000000 := by
  rw [← abs_sq]
  have h1 : 0 ≤ absZ s ∧ absZ s ≤ 1000000000000000 := by unfold absZ; split <;> omega
  exact ⟨Int.mul_nonneg h1.1 h1.1, Int.mul_le_mul h1.2 h1.2 h1.1 (by omega)⟩
theorem nq_le30 {n q : Int} (hn : 0 ≤ n ∧ n ≤ 1000000000) (hq : 0 ≤ q ∧ q ≤ 1000000000000000000000) : 0 ≤ n * q ∧ n * q ≤ 1000000000000000000000000000000 :=
  ⟨Int.mul_nonneg hn.1 hq.1, Int.mul_le_mul hn.2 hq.2 hq.1 (by omega)⟩
theorem vq (x : Int) : val (x / 18446744073709551616) (x % 18446744073709551616) = x := by unfold val; omega
theorem vq2 {x : Int} (h0 : 0 ≤ x) (h1 : x < 340282366920938463463374607431768211456) : val (x / 18446744073709551616 % 18446744073709551616) (x % 18446744073709551616) = x := by unfold val; omega
theorem val0 (x : Int) : val 0 x = x := by unfold val; omega
theorem st_lo {n m : Int} : 1 ≤ n → n ≤ 1000000000 → -1000000 ≤ m → -1000000000000000 ≤ n * m := by
  intro h0 h1 h2
  have := Int.mul_le_mul_of_nonneg_left (c := n) h2 (by omega)
  omega
theorem st_hi {n m : Int} : 1 ≤ n → n ≤ 1000000000 → m ≤ 1000000 → n * m ≤ 1000000000000000 := by
  intro h0 h1 h2
  have := Int.mul_le_mul_of_nonneg_left (c := n) h2 (by omega)
  omega
/-- all samples are within -/
def inS (l : List Int) : Prop := ∀ x ∈ l, -1000000 ≤ x ∧ x ≤ 1000000
instance decIn (l : List Int) : Decidable (inS l) := by unfold inS; exact inferInstance
def jnOK (n s h l mn mx n2 s2 h2 l2 mn2 mx2 : Int) : Prop := stOK n s h l mn mx ∧ stOK n2 s2 h2 l2 mn2 mx2
instance decJn (n s h l mn mx n2 s2 h2 l2 mn2 mx2 : Int) : Decidable (jnOK n s h l mn mx n2 s2 h2 l2 mn2 mx2) := by unfold jnOK; exact inferInstance
def jMn (n mn n2 mn2 : Int) : Int := if n = 0 then mn2 else if n2 = 0 then mn else if mn2 < mn then mn2 else mn
def jMx (n mx n2 mx2 : Int) : Int := if n = 0 then mx2 else if n2 = 0 then mx else if mx < mx2 then mx2 else mx
theorem st_rng {n s h l mn mx : Int} (j_h : IsU h) (j_l : IsU l) (k : stOK n s h l mn mx) : (0 ≤ n ∧ n ≤ 1000000000) ∧ (-1000000000000000 ≤ s ∧ s ≤ 1000000000000000) ∧ (0 ≤ val h l ∧ val h l ≤ 1000000000000000000000) ∧ s * s ≤ n * val h l ∧ (-1000000 ≤ mn ∧ mn ≤ 1000000) ∧ (-1000000 ≤ mx ∧ mx ≤ 1000000) := by
  have v0 : 0 ≤ val h l := by unfold IsU at j_h j_l; unfold val; omega
  rcases k with ⟨k1, k2, k3, k4, k5, k6⟩ | ⟨k1, k2, k3, k4, k5, k6, k7, k8⟩
  · subst k1 k2 k3 k4 k5 k6
    refine ⟨by omega, by omega, ?_, ?_, by omega, by omega⟩
    · unfold val; omega
    · omega
  · have p1 := st_lo k1.1 k1.2 k3
    have p2 := st_hi k1.1 k1.2 k4
    refine ⟨by omega, by omega, ⟨v0, by omega⟩, k8, by omega, by omega⟩
theorem sumL_snoc (l : List Int) (x : Int) : sumL (l ++ [x]) = sumL l + x := by rw [sumL_append]; simp [sumL]
theorem sqL_snoc (l : List Int) (x : Int) : sqL (l ++ [x]) = sqL l + x * x := by rw [sqL_append]; simp [sqL]
theorem foldmin_mem : ∀ (r : List Int) (x : Int), r.foldl min x = x ∨ r.foldl min x ∈ r
  | [], x => Or.inl rfl
  | z :: r, x => by
    simp only [List.foldl_cons]
    rcases foldmin_mem r (min x z) with h | h
    · by_cases k : x ≤ z
      · left; rw [h]; omega
      · right; rw [h, show min x z = z by omega]; exact List.mem_cons_self ..
    · right; exact List.mem_cons_of_mem _ h
theorem foldmax_mem : ∀ (r : List Int) (x : Int), r.foldl max x = x ∨ r.foldl max x ∈ r
  | [], x => Or.inl rfl
  | z :: r, x => by
    simp only [List.foldl_cons]
    rcases foldmax_mem r (max x z) with h | h
    · by_cases k : z ≤ x
      · left; rw [h]; omega
      · right; rw [h, show max x z = z by omega]; exact List.mem_cons_self ..
    · right; exact List.mem_cons_of_mem _ h
theorem minS_mem {l : List Int} (h : l ≠ []) : minS l ∈ l := by
  cases l with
  | nil => exact absurd rfl h
  | cons x r =>
    rcases foldmin_mem r x with k | k
    · show r.foldl min x ∈ x :: r
      rw [k]; exact List.mem_cons_self ..
    · exact List.mem_cons_of_mem _ k
theorem maxS_mem {l : List Int} (h : l ≠ []) : maxS l ∈ l := by
  cases l with
  | nil => exact absurd rfl h
  | cons x r =>
    rcases foldmax_mem r x with k | k
    · show r.foldl max x ∈ x :: r
      rw [k]; exact List.mem_cons_self ..
    · exact List.mem_cons_of_mem _ k
theorem mm_rng {l : List Int} {K : Int} (hK : 0 ≤ K) (h : ∀ x ∈ l, -K ≤ x ∧ x ≤ K) : (-K ≤ minS l ∧ minS l ≤ K) ∧ (-K ≤ maxS l ∧ maxS l ≤ K) := by
  by_cases k : l = []
  · subst k; simp only [minS, maxS]; omega
  · exact ⟨h _ (minS_mem k), h _ (maxS_mem k)⟩
theorem sts_rng {l : List Int} (h : inS l) (hl : (l.length : Int) ≤ 100000) : (-100000000000 ≤ sumL l ∧ sumL l ≤ 100000000000) ∧ (0 ≤ sqL l ∧ sqL l ≤ 100000000000000000) ∧ (-1000000 ≤ minS l ∧ minS l ≤ 1000000) ∧ (-1000000 ≤ maxS l ∧ maxS l ≤ 1000000) := by
  have h1 := sum_rng (K := 1000000) l h
  have h2 := sq_rng (K := 1000000) (by omega) l h
  have h3 := sqL_nonneg l
  have h4 := mm_rng (K := 1000000) (by omega) h
  omega
theorem of_stOK {l : List Int} (h : inS l) (hl : (l.length : Int) ≤ 100000) : stOK (l.length : Int) (sumL l) 0 (sqL l) (minS l) (maxS l) := by
  by_cases k : l = []
  · subst k; exact Or.inl ⟨rfl, rfl, rfl, rfl, rfl, rfl⟩
  · obtain ⟨h1, h2, h3, h4⟩ := sts_rng h hl
    have hn : 1 ≤ (l.length : Int) := by
      cases l with
      | nil => exact absurd rfl k
      | cons x r => simp only [List.length_cons]; omega
    have g := sq_rng (K := 1000000) (by omega) l h
    refine Or.inr ⟨by omega, minS_le (maxS_mem k), h3.1, h4.2, sum_ge l (fun x hx => minS_le hx), sum_le l (fun x hx => maxS_ge hx), ?_, ?_⟩
    · rw [val0]; omega
    · rw [val0]; exact cauchy l
theorem take_snoc {xs : List Int} {i : Int} (h0 : 0 ≤ i) (h : i < (xs.length : Int)) : xs.take (i + 1).toNat = xs.take i.toNat ++ [xs.getD i.toNat 0] := by
  rw [show (i + 1).toNat = i.toNat + 1 by omega]
  exact take_next (by omega)
theorem getD_mem {xs : List Int} {i : Int} (h0 : 0 ≤ i) (h : i < (xs.length : Int)) : xs.getD i.toNat 0 ∈ xs := by
  have hk : i.toNat < xs.length := by omega
  have e : xs.getD i.toNat 0 = xs[i.toNat] := by simp [List.getD, hk]
  rw [e]
  exact List.getElem_mem hk
theorem inS_nil {xs : List Int} : inS (xs.take (Int.toNat 0)) := by
  intro y hy
  simp at hy
theorem inS_take {xs : List Int} (n : Nat) (h : inS xs) : inS (xs.take n) := fun x hx => h x (List.mem_of_mem_take hx)
theorem inS_snoc {l : List Int} {x : Int} (h : inS l) (hx : -1000000 ≤ x ∧ x ≤ 1000000) : inS (l ++ [x]) := by
  intro y hy
  rw [List.mem_append, List.mem_singleton] at hy
  rcases hy with hy | hy
  · exact h y hy
  · rw [hy]; exact hx
/-- the stats behind one more sample -/
theorem sts_next {xs : List Int} {i x : Int} (h0 : 0 ≤ i) (h : i < (xs.length : Int)) (hx : x = xs.getD i.toNat 0) :
    sumL (xs.take (i + 1).toNat) = sumL (xs.take i.toNat) + x ∧ sqL (xs.take (i + 1).toNat) = sqL (xs.take i.toNat) + x * x ∧
    minS (xs.take (i + 1).toNat) = (if i = 0 then x else if x < minS (xs.take i.toNat) then x else minS (xs.take i.toNat)) ∧
    maxS (xs.take (i + 1).toNat) = (if i = 0 then x else if maxS (xs.take i.toNat) < x then x else maxS (xs.take i.toNat)) ∧ ((xs.take (i + 1).toNat).length : Int) = i + 1 := by
  have hl : ((xs.take i.toNat).length : Int) = i := by rw [List.length_take]; omega
  have hz : (xs.take i.toNat).length = 0 ↔ i = 0 := by omega
  rw [take_snoc h0 h, ← hx, sumL_snoc, sqL_snoc, minS_snoc, maxS_snoc]
  refine ⟨rfl, rfl, ?_, ?_, ?_⟩
  · by_cases k : i = 0
    · rw [if_pos (hz.2 k), if_pos k]
    · rw [if_neg (fun q => k (hz.1 q)), if_neg k]; split <;> omega
  · by_cases k : i = 0
    · rw [if_pos (hz.2 k), if_pos k]
    · rw [if_neg (fun q => k (hz.1 q)), if_neg k]; split <;> omega
  · rw [List.length_append, List.length_singleton]; omega
end Go.Proofs.Ytjbokdekofiihaa.X
