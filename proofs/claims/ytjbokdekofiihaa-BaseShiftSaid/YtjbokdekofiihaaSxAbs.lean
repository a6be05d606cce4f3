/-
  An int without its sign.
-/
import Derived.Test.YtjbokdekofiihaaSxMul
namespace Go.Proofs.Ytjbokdekofiihaa.X
open Go Go.SX Go.RowKit
set_option linter.unusedVariables false
/-- an int without its sign -/
def absZ (a : Int) : Int := if a < 0 then -a else a
theorem absZ_le {a : Int} (h : IsI a) : 0 ≤ absZ a ∧ absZ a ≤ 9223372036854775808 := by
  obtain ⟨h1, h2⟩ := h
  unfold absZ; split <;> omega
theorem f50 : ((5 : Int) = 0) = False := by simp
theorem f00 : (¬(0 : Int) = 0) = False := by simp
theorem tm_rng {x : Int} {m : Int} (h : 0 < m) : -m < Int.tmod x m ∧ Int.tmod x m < m := by
  have h1 := Int.tmod_lt_of_pos x h
  refine ⟨?_, h1⟩
  have h2 := Int.tmod_lt_of_pos (-x) h
  rw [Int.neg_tmod] at h2
  omega
theorem tm_small {x m : Int} (h : -m < x ∧ x < m) : Int.tmod x m = x := by
  by_cases h0 : 0 ≤ x
  · exact Int.tmod_eq_of_lt h0 h.2
  · have := Int.tmod_eq_of_lt (a := -x) (b := m) (by omega) (by omega)
    rw [Int.neg_tmod] at this
    omega
theorem getD_rng {xs : List Int} {a b i : Int} (h : ∀ y ∈ xs, a ≤ y ∧ y ≤ b) (h0 : 0 ≤ i) (h1 : i < xs.length) : a ≤ xs.getD i.toNat 0 ∧ xs.getD i.toNat 0 ≤ b := by
  have hk : i.toNat < xs.length := by omega
  have e : xs.getD i.toNat 0 = xs[i.toNat] := by simp [List.getD, hk]
  rw [e]
  exact h _ (List.getElem_mem hk)
end Go.Proofs.Ytjbokdekofiihaa.X
