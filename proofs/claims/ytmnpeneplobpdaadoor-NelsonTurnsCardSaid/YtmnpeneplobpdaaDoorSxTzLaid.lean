/-
  The table of bits.TrailingZeros lies where the row says: what the contracts ask of the world.
-/
import Derived.Test.YtmnpeneplobpdaaDoorSxTz
import Derived.Test.YtmnpeneplobpdaaDoorRows
import Derived.LaidMore
import Derived.Stop.LaidErr
namespace Go.Proofs.YtmnpeneplobpdaaDoor.X
open Go Go.SX Go.RowKit
set_option linter.unusedVariables false
abbrev tzLaid : List (String × DataW Unit) := [("math/bits.deBruijn32tab", Rows.laid_math_bits_deBruijn32tab), ("math/bits.deBruijn64tab", Rows.laid_math_bits_deBruijn64tab)]
def tzZs : List Int := [0, 1, 56, 2, 57, 49, 28, 3, 61, 58, 42, 50, 38, 29, 17, 4, 62, 47, 59, 36, 45, 43, 51, 22, 53, 39, 33, 30, 24, 18, 12, 5, 63, 55, 48, 27, 60, 41, 37, 16, 46, 35, 44, 21, 52, 32, 23, 11, 54, 26, 40, 15, 34, 20, 31, 10, 25, 14, 19, 9, 13, 8, 7, 6]
theorem tzZs_at : ∀ j, j < 64 → tzZs.getD j 0 = ((Lib.deBruijn64tab.getD j 0 : Nat) : Int) := by decide
set_option maxRecDepth 100000 in
theorem tz_laid {W : World} (h : laidMetH Tryd.prog tzLaid W) : tzG.G W := by
  rw [MakeChecks.laidMetH_plain _ _ _ (by kernel_rfl)] at h
  have h2 : laidMet Tryd.prog [("math/bits.deBruijn64tab", Lib.tabData .u8 tzZs)] W := h.tail
  have hT : Lib.TabIs Tryd.prog W "math/bits.deBruijn64tab" .u8 tzZs :=
    Lib.tabIs_of_head (g := 1) (t := 80) (e := 5) (n := 64) (by kernel_rfl) (by kernel_rfl) (by kernel_rfl) (by kernel_rfl) (by kernel_rfl) (by kernel_rfl) h2
  intro j hj
  have hj' : j < 64 := hj
  have := hT.cell (g := 1) (by kernel_rfl) j (show j < 64 from hj')
  rw [tzZs_at j hj'] at this
  exact this
set_option maxRecDepth 100000 in
theorem tz_door (os : Os) (args : Array Value) : laidMetH Tryd.prog tzLaid ((World.doorLaid Tryd.prog 19 os).forCall (fun _ _ => 0) ⟨#[], args, []⟩).memory :=
  laidMetH_of_parts3 (fuel := 8) (laidMet_of_run' 8 (by kernel_rfl) (by kernel_rfl)) (by kernel_rfl) (by kernel_rfl)
end Go.Proofs.YtmnpeneplobpdaaDoor.X
