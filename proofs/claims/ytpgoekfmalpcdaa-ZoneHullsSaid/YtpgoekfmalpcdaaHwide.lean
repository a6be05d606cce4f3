/-
  The contracts of package wide (numbers of 128 bits), for every input in range.
-/
import Derived.Test.YtpgoekfmalpcdaaProg
import Derived.Test.YtpgoekfmalpcdaaShelf
import Derived.Test.YtpgoekfmalpcdaaWMore
import Derived.WalkKit
import Derived.WalkSpells
import Derived.WalkLawsBesides
import Derived.Below
import Derived.Deep.RegionHeld3
import Derived.Deep.LoopGhost
namespace Go.Proofs.Ytpgoekfmalpcdaa.X
open Go.RowKit Go.Proofs.YtpgoekfmalpcdaaW.PrintWords
set_option linter.unusedSimpArgs false
set_option linter.unusedVariables false

/-- a word: 64 bits -/
def u64B (x : Int) : Bool := decide (0 ≤ x ∧ x < 18446744073709551616)

theorem u64B_iff {x : Int} : u64B x = true ↔ 0 ≤ x ∧ x < 18446744073709551616 := by simp [u64B]

theorem u64_wrap {x : Int} (h0 : 0 ≤ x) (h1 : x < 18446744073709551616) : IntKind.u64.wrap x = x := by
  rw [IntKind.wrap_u64]; omega

def wide_Mul.f (a0 a1 : Int) : Option (Int × Int) :=
  if u64B a0 && u64B a1 then some (a0 * a1 / 18446744073709551616, a0 * a1 % 18446744073709551616) else none

set_option maxHeartbeats 400000 in
theorem mul_any (x y : Nat) (hx : x < 18446744073709551616) (hy : y < 18446744073709551616) (w : World) :
    Calls Try.prog 16 #[.int .u64 x, .int .u64 y] w fun e w' =>
      e = .returned (.agg #[.int .u64 ((x * y / 18446744073709551616 : Nat) : Int), .int .u64 ((x * y % 18446744073709551616 : Nat) : Int)]) ∧ w' = w.alloc (.cells #[.int .u64 ((x * y / 18446744073709551616 : Nat) : Int), .int .u64 ((x * y % 18446744073709551616 : Nat) : Int)] 24) := by
  go_enter Try.func16, Try.ntmps16
  go_wp2_with (go_at_call 24; refine (Try.bits_Mul64 x y hx hy _).mono ?_; rintro e w' ⟨rfl, rfl⟩)
  exact bodyPost_ret (v := .agg #[.int .u64 ((x * y / 18446744073709551616 : Nat) : Int), .int .u64 ((x * y % 18446744073709551616 : Nat) : Int)]) (by simp [results, Try.results16, go_sem]) rfl
    ⟨rfl, rfl⟩

theorem wide_Mul.calls (a0 a1 r1 r2 : Int) (w : World) (h : wide_Mul.f a0 a1 = some (r1, r2)) :
    Calls Try.prog 16 #[.int .u64 a0, .int .u64 a1] w fun e w' => e = .returned (.agg #[.int .u64 r1, .int .u64 r2]) ∧ Below w.heap.size w w' := by
  unfold wide_Mul.f at h
  split at h
  · rename_i hb
    simp only [Bool.and_eq_true, u64B_iff] at hb
    obtain ⟨⟨h0, h1⟩, h2, h3⟩ := hb
    obtain ⟨x, rfl⟩ := Int.eq_ofNat_of_zero_le h0
    obtain ⟨y, rfl⟩ := Int.eq_ofNat_of_zero_le h2
    injection h with h
    injection h with e1 e2
    subst e1; subst e2
    exact (mul_any x y (by omega) (by omega) w).mono fun e w' ⟨h1, h2⟩ => ⟨h1, h2 ▸ (Below.refl _ _).alloc (Nat.le_refl _) _⟩
  · cases h

theorem add64_run (x y c : Int) (hx : 0 ≤ x) (hy : 0 ≤ y) (hc0 : 0 ≤ c) (hc : c ≤ 1) (w : World) :
    (callFunc 25 #[.int .u64 x, .int .u64 y, .int .u64 c]).run Try.prog w =
      .ok (.value (.tuple #[.int .u64 ((x + y + c) % 18446744073709551616), .int .u64 ((x + y + c) / 18446744073709551616)])) w := by
  rw [run_callFunc_extern Try.func25 (by kernel_rfl) (by kernel_rfl) (by kernel_rfl) (e := add64Entry) (by kernel_rfl), run_add64 x y c hx hy hc0 hc]
  rfl

end Go.Proofs.Ytpgoekfmalpcdaa.X
