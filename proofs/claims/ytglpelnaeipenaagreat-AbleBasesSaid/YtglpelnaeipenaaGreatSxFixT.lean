/-
  What package fix tells: an int, or ErrOver.
-/
import Derived.Test.YtglpelnaeipenaaGreatSxTry
namespace Go.Proofs.YtglpelnaeipenaaGreat.X
open Go Go.SX Go.RowKit
set_option linter.unusedVariables false
set_option linter.unusedSimpArgs false
instance decI (x : Int) : Decidable (IsI x) := by unfold IsI; exact inferInstance
theorem wi64 (x : Int) : IntKind.i64.wrap x = (x + 9223372036854775808) % 18446744073709551616 - 9223372036854775808 := by
  simp only [IntKind.wrap, IntKind.bits, IntKind.signed, Bool.true_and, decide_eq_true_eq, ge_iff_le, Int.reducePow, Nat.reduceSub]
  split <;> omega
theorem beq_dec {p q : Prop} [Decidable p] [Decidable q] : (decide p == decide q) = decide (p ↔ q) := by
  by_cases hp : p <;> by_cases hq : q <;> simp [hp, hq]
/-- an int, or 0 and ErrOver -/
def tell (x : Int) : List Cv := [.i (if IsI x then x else 0), .i (if IsI x then 0 else 5)]
theorem tell_fits (x : Int) : (-9223372036854775808 ≤ (if IsI x then x else 0) ∧ (if IsI x then x else 0) ≤ 9223372036854775807) ∧ (-9223372036854775808 ≤ (if IsI x then 0 else 5 : Int) ∧ (if IsI x then 0 else 5 : Int) ≤ 9223372036854775807) := by
  by_cases h : IsI x
  · simp only [if_pos h]; exact ⟨h, by omega⟩
  · simp only [if_neg h]; omega
end Go.Proofs.YtglpelnaeipenaaGreat.X
