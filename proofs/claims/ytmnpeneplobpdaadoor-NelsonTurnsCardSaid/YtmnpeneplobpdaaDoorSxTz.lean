/-
  bits.TrailingZeros and bits.Len, by contract: the first of a table that is laid when the call begins.
-/
import Derived.Test.YtmnpeneplobpdaaDoorSxTab
import Derived.Test.YtmnpeneplobpdaaDoorShelf
import Derived.Shelf.Spec.TrailingZeros
import Derived.Lib.LaidTab
namespace Go.Proofs.YtmnpeneplobpdaaDoor.X
open Go Go.SX Go.RowKit Go.Shelf
set_option linter.unusedVariables false
set_option linter.unusedSimpArgs false
def tzren : Go.Shelf.Ren := ⟨fun | 27 => 32 | 28 => 47 | 29 => 48 | n => n, fun | 5 => 5 | 22 => 71 | 25 => 55 | 27 => 69 | 53 => 79 | 54 => 80 | n => n, fun | n => n⟩
theorem tzlays : Go.Proofs.Lays7.n27 Tryd.prog tzren := {
  mixed := by kernel_rfl
  f27 := Tryd.func32.trans (congrArg some (by kernel_rfl))
  f28 := Tryd.func47.trans (congrArg some (by kernel_rfl))
  f29 := Tryd.func48.trans (congrArg some (by kernel_rfl))
  t0 := by kernel_rfl
  a0 := fun w => by kernel_rfl
  z0 := fun w => by kernel_rfl
  v0 := fun w => by kernel_rfl
  i0 := by kernel_rfl
  t3 := by kernel_rfl
  a3 := fun w => by kernel_rfl
  z3 := fun w => by kernel_rfl
  v3 := fun w => by kernel_rfl
  i3 := by kernel_rfl
  t4 := by kernel_rfl
  a4 := fun w => by kernel_rfl
  z4 := fun w => by kernel_rfl
  v4 := fun w => by kernel_rfl
  i4 := by kernel_rfl
  t5 := by kernel_rfl
  a5 := fun w => by kernel_rfl
  z5 := fun w => by kernel_rfl
  v5 := fun w => by kernel_rfl
  i5 := by kernel_rfl
  t22 := by kernel_rfl
  a22 := fun w => by kernel_rfl
  z22 := fun w => by kernel_rfl
  v22 := fun w => by kernel_rfl
  i22 := by kernel_rfl
  t25 := by kernel_rfl
  a25 := fun w => by kernel_rfl
  z25 := fun w => by kernel_rfl
  v25 := fun w => by kernel_rfl
  i25 := by kernel_rfl
  t27 := by kernel_rfl
  a27 := fun w => by kernel_rfl
  z27 := fun w => by kernel_rfl
  v27 := fun w => by kernel_rfl
  i27 := by kernel_rfl
  t53 := by kernel_rfl
  a53 := fun w => by kernel_rfl
  z53 := fun w => by kernel_rfl
  v53 := fun w => by kernel_rfl
  i53 := by kernel_rfl
  t54 := by kernel_rfl
  a54 := fun w => by kernel_rfl
  z54 := fun w => by kernel_rfl
  g0 := by kernel_rfl
  g1 := by kernel_rfl }
/-- the table lies in its variable -/
def tzG : Cond := ⟨fun w => TabAt 1 Lib.deBruijn64tab w, fun w w' h hb j hj => by
  have h1 := h j hj
  have hl := World.block_lt_of_cell? w _ h1
  rw [World.cell?_of_block (w := w)]
  · exact h1
  · exact hb.block _ hl⟩
def tzN (m : Int) : Int := ((Lib.ctz 64 m.toNat : Nat) : Int)
def lenN (m : Int) : Int := ((Lib.bitLen m.toNat : Nat) : Int)
theorem tz_all : ∀ i : Fin 512, i.val ≠ 0 → Lib.ctz 64 i.val ≤ 8 ∧ Lib.bitLen i.val ≤ 9 ∧ Lib.ctz 64 i.val < Lib.bitLen i.val := by decide +kernel
theorem tz_rng {m : Int} (h0 : 1 ≤ m) (h1 : m ≤ 511) : 0 ≤ tzN m ∧ tzN m ≤ 8 ∧ tzN m < lenN m ∧ lenN m ≤ 9 := by
  obtain ⟨n, rfl⟩ := Int.eq_ofNat_of_zero_le (show 0 ≤ m by omega)
  have := tz_all ⟨n, by omega⟩ (by show n ≠ 0; omega)
  unfold tzN lenN
  simp only [Int.toNat_natCast] at *
  omega

def tz_sp : SpecSh := { args := [(.int .u64 (.z 0))], res := (.int .i64 (.z 0)), sh := [.i (some ((-9223372036854775808), 9223372036854775807))] }
def tz_sem : SpecSem := { pre := fun cs => match cs with | [.i x] => 1 ≤ x ∧ x ≤ 511 | _ => False, out := fun cs => match cs with | [.i x] => [.i (tzN x)] | _ => [], g := tzG }
theorem tz_ok : SpecOK Tryd.prog 32 tz_sp tz_sem := by
  refine spec_of_callsG Tryd.func32 (by kernel_rfl) (by kernel_rfl) ?_
  intro cs hpre
  match cs, hpre with
  | [.i x], ⟨h0, h1⟩ =>
    have hr := tz_rng h0 h1
    refine ⟨?_, fun w hg => ?_⟩
    · simp only [tz_sem, tz_sp, Fits, and_true]; omega
    · obtain ⟨n, rfl⟩ := Int.eq_ofNat_of_zero_le (show 0 ≤ x by omega)
      refine (Any7.bits_TrailingZeros tzlays n (by omega) w (fun _ => hg)).mono ?_
      rintro e w' ⟨rfl, rfl⟩
      exact ⟨rfl, .refl _ _⟩
def blen_sp : SpecSh := { args := [(.int .u64 (.z 0))], res := (.int .i64 (.z 0)), sh := [.i (some ((-9223372036854775808), 9223372036854775807))] }
def blen_sem : SpecSem := { pre := fun cs => match cs with | [.i x] => 1 ≤ x ∧ x ≤ 511 | _ => False, out := fun cs => match cs with | [.i x] => [.i (lenN x)] | _ => [] }
theorem blen_ok : SpecOK Tryd.prog 33 blen_sp blen_sem := by
  refine spec_of_calls Tryd.func33 (by kernel_rfl) (by kernel_rfl) ?_
  intro cs hpre
  match cs, hpre with
  | [.i x], ⟨h0, h1⟩ =>
    have hr := tz_rng h0 h1
    refine ⟨?_, fun w => ?_⟩
    · simp only [blen_sem, blen_sp, Fits, and_true]; omega
    · refine (Tryd.bits_Len x w (by omega) (by omega)).mono ?_
      rintro e w' ⟨rfl, rfl⟩
      exact ⟨rfl, .refl _ _⟩
end Go.Proofs.YtmnpeneplobpdaaDoor.X
