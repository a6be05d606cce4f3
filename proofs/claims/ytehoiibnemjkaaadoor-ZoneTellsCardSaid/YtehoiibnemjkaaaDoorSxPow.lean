/-
  Powers of 2.
-/
import Derived.Test.YtehoiibnemjkaaaDoorSxMul
namespace Go.Proofs.YtehoiibnemjkaaaDoor.X
open Go Go.SX Go.RowKit
set_option linter.unusedVariables false
set_option linter.unusedSimpArgs false
def p2 (n : Int) : Int := ((2 ^ n.toNat : Nat) : Int)
theorem p2_pos (n : Int) : 0 < p2 n := Int.natCast_pos.mpr (Nat.two_pow_pos _)
theorem p2_succ {n : Int} (h : 0 ≤ n) : p2 (n + 1) = 2 * p2 n := by
  unfold p2
  rw [show (n + 1).toNat = n.toNat + 1 by omega, Nat.pow_succ]
  omega
theorem p2_mul {n m : Int} (hn : 0 ≤ n) (hm : 0 ≤ m) : p2 n * p2 m = p2 (n + m) := by
  unfold p2
  rw [show (n + m).toNat = n.toNat + m.toNat by omega, Nat.pow_add, Int.natCast_mul]
theorem p2_64 : p2 64 = 18446744073709551616 := rfl
theorem p2_le {n m : Int} (hn : 0 ≤ n) (h : n ≤ m) : p2 n ≤ p2 m := by
  unfold p2
  exact Int.ofNat_le.2 (Nat.pow_le_pow_right (by omega) (by omega))
theorem p2_den {n : Int} (h0 : 0 ≤ n) (h : n ≤ 64) : (2 : Int) ^ (min n.toNat (IntKind.u64).bits) = p2 n := by
  have : min n.toNat (IntKind.u64).bits = n.toNat := by simp only [IntKind.bits]; omega
  rw [this]; unfold p2; simp
end Go.Proofs.YtehoiibnemjkaaaDoor.X
