/-
  Points of counts, as numbers.
-/
import Derived.Test.YtgnihomdpandfaaSxTally2
import Derived.Test.YtgnihomdpandfaaSxStatNum2
namespace Go.Proofs.Ytgnihomdpandfaa.X
open Go Go.SX Go.RowKit
set_option linter.unusedVariables false
theorem cEq {a b c d : Int} : (Cmp.eq.den a b = Cmp.eq.den c d) ↔ (a = b ↔ c = d) := by simp [Cmp.den]
def pMul (k s : Int) : Int := if k = 2 then s else if k = 5 then s else 1
theorem tp_fin {k s m u d : Int} (h : TMay k s m u d) (hm : ¬ m = 0) :
    1 ≤ pDen k s m ∧ IntKind.i64.wrap (pCen k s u + pDev k s m u d) = pCen k s u + pDev k s m u d ∧ (pCen k s u + pDev k s m u d) * pMul k s = d * pDen k s m ∧ IntKind.i64.wrap (d * pDen k s m) = d * pDen k s m ∧
    IntKind.i64.wrap (pCen k s u * m) = pCen k s u * m ∧ pCen k s u * m * pMul k s = u * pDen k s m ∧ IntKind.i64.wrap (u * pDen k s m) = u * pDen k s m ∧ IntKind.i64.wrap (d * m) = d * m ∧ (Cmp.eq.den (pDev k s m u d) 0 = Cmp.eq.den (d * m) u) := by
  obtain ⟨r1, r2, r3, r4, r5, r6, r7⟩ := pt_rng h
  obtain ⟨g0, g1, g2, g3, g4, g5, g6, g7, g8, g9, g10⟩ := tmay_rng h
  have hm1 : 1 ≤ m := by omega
  have d1 : 1 ≤ m * s := Int.mul_le_mul (a := 1) (b := 1) (by omega) (by omega) (by omega) (by omega)
  have d2 : 1 ≤ m * s * s := Int.mul_le_mul (a := 1) (b := 1) d1 (by omega) (by omega) (by omega)
  have a1 := mulBnd g7 g8 (show 0 ≤ m * s by omega) r1.2
  have a2 := mulBnd g7 g8 (show 0 ≤ m * s * s by omega) r2.2
  have a3 := mulBnd g5 g6 (show 0 ≤ m * s by omega) r1.2
  have a4 := mulBnd g5 g6 (show 0 ≤ m * s * s by omega) r2.2
  have a5 := mulBnd r3.1 r3.2 g3 g4
  have z : (d * (m * s) - u * s = 0) ↔ d * m = u := by
    have e : d * (m * s) - u * s = (d * m - u) * s := by rw [Int.sub_mul, Int.mul_assoc]
    rw [e, Int.mul_eq_zero]
    omega
  rw [cEq]
  rcases g0 with rfl | rfl | rfl | rfl
  · simp only [pMul, pDen, pCen, pDev, if_true, if_neg (show ¬ (4 : Int) ≤ 2 by omega)]
    have e1 : u * s + (d * (m * s) - u * s) = d * (m * s) := by omega
    rw [e1]
    have e2 : d * (m * s) * s = d * (m * s * s) := Int.mul_assoc ..
    have e3 : u * s * m * s = u * (m * s * s) := by ac_rfl
    exact ⟨d2, w64 (by omega) (by omega), e2, w64 (by omega) (by omega), w64 (by omega) (by omega), e3, w64 (by omega) (by omega), w64 (by omega) (by omega), z⟩
  · simp only [pMul, pDen, pCen, pDev, if_neg (show ¬ (3 : Int) = 2 by omega), if_neg (show ¬ (3 : Int) = 5 by omega), if_neg (show ¬ (4 : Int) ≤ 3 by omega), Int.mul_one]
    have e1 : u * s + (d * (m * s) - u * s) = d * (m * s) := by omega
    rw [e1]
    have e3 : u * s * m = u * (m * s) := by ac_rfl
    exact ⟨d1, w64 (by omega) (by omega), rfl, w64 (by omega) (by omega), w64 (by omega) (by omega), e3, w64 (by omega) (by omega), w64 (by omega) (by omega), z⟩
  · have hs := g10 rfl
    subst hs
    simp only [pMul, pDen, pCen, pDev, if_neg (show ¬ (4 : Int) = 2 by omega), if_neg (show ¬ (4 : Int) = 5 by omega), if_pos (show (4 : Int) ≤ 4 by omega), Int.mul_one] at *
    have e1 : u + (d * m - u) = d * m := by omega
    rw [e1]
    exact ⟨hm1, w64 (by omega) (by omega), (by first | rfl | trivial), w64 (by omega) (by omega), w64 (by omega) (by omega), (by first | rfl | trivial), w64 (by omega) (by omega), w64 (by omega) (by omega), by omega⟩
  · simp only [pMul, pDen, pCen, pDev, if_neg (show ¬ (5 : Int) = 2 by omega), if_true, if_pos (show (4 : Int) ≤ 5 by omega)]
    have e1 : u + (d * m - u) = d * m := by omega
    rw [e1]
    have e2 : d * m * s = d * (m * s) := Int.mul_assoc ..
    have e3 : u * m * s = u * (m * s) := Int.mul_assoc ..
    exact ⟨d1, w64 (by omega) (by omega), e2, w64 (by omega) (by omega), w64 (by omega) (by omega), e3, w64 (by omega) (by omega), w64 (by omega) (by omega), by omega⟩
/-- counts that are so many at most -/
def inC (M : Int) (l : List Int) : Prop := ∀ y ∈ l, 0 ≤ y ∧ y ≤ M
theorem inC_snoc {M x : Int} {l : List Int} (h : inC M l) (hx : 0 ≤ x ∧ x ≤ M) : inC M (l ++ [x]) := by
  intro y hy
  rw [List.mem_append, List.mem_singleton] at hy
  rcases hy with hy | hy
  · exact h y hy
  · rw [hy]; exact hx
theorem inC_sum {M : Int} {l : List Int} (h : inC M l) : 0 ≤ sumL l ∧ sumL l ≤ (l.length : Int) * M := by
  have h1 := sum_ge (m := 0) l (fun x hx => (h x hx).1)
  have h2 := sum_le (m := M) l (fun x hx => (h x hx).2)
  omega
theorem inC_I {M : Int} {l : List Int} (hM : M ≤ 1000000) (h : inC M l) : InI l := fun x hx => by have := h x hx; omega
theorem most_rng {k s : Int} (h : TSizes k s) : 1 ≤ most k s ∧ most k s ≤ 1000000 := by
  obtain ⟨a1, a2, a3, a4, a5⟩ := h
  unfold most
  split <;> omega
theorem may_of {k s d : Int} {l : List Int} (hS : TSizes k s) (h : inC (most k s) l) (hl : (l.length : Int) ≤ 25) (hd : 0 ≤ d ∧ d ≤ most k s) : TMay k s (l.length : Int) (sumL l) d :=
  ⟨⟨hS, by omega, hl, (inC_sum h).1, (inC_sum h).2⟩, hd⟩
theorem made_sizes (a b : Int) : TSizes (2 + (a.tmod 4 + 4) % 4) (if 2 + (a.tmod 4 + 4) % 4 = 4 then 1 else 1 + (b.tmod 1000 + 1000) % 1000) := by
  have t1 := tm_rng (x := a) (m := 4) (by omega)
  have t2 := tm_rng (x := b) (m := 1000) (by omega)
  generalize a.tmod 4 = x at *
  generalize b.tmod 1000 = y at *
  unfold TSizes
  split <;> omega
end Go.Proofs.Ytgnihomdpandfaa.X
