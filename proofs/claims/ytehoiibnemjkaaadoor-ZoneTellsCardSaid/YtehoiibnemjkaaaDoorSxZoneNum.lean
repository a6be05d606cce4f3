/-
  Classes and hulls of zones, as numbers.
-/
import Derived.Test.YtehoiibnemjkaaaDoorSxPow
namespace Go.Proofs.YtehoiibnemjkaaaDoor.X
open Go Go.SX Go.RowKit
set_option linter.unusedVariables false
set_option linter.unusedSimpArgs false
/-- how far out a deviation is, by a variance -/
def clsN (q v : Int) : Int := 1 + (if v < q then 1 else 0) + (if 4 * v < q then 1 else 0) + (if 9 * v < q then 1 else 0)
def clsZ (d v : Int) : Int := if d = 0 then 0 else if d < 0 then -clsN (d * d) v else clsN (d * d) v
theorem clsN_rng (q v : Int) : 1 ≤ clsN q v ∧ clsN q v ≤ 4 := by unfold clsN; omega
theorem clsZ_rng (d v : Int) : -4 ≤ clsZ d v ∧ clsZ d v ≤ 4 := by
  have := clsN_rng (d * d) v
  unfold clsZ; omega
theorem sq_i {d : Int} (h : IsI d) : 0 ≤ d * d ∧ d * d ≤ 85070591730234615865843651857942052864 := by
  unfold IsI at h
  by_cases h0 : 0 ≤ d
  · have h1 := Int.mul_le_mul (a := d) (b := d) (c := 9223372036854775807) (d := 9223372036854775807) (by omega) (by omega) (by omega) (by omega)
    have h2 := Int.mul_nonneg h0 h0
    omega
  · have h1 := Int.mul_le_mul (a := -d) (b := -d) (c := 9223372036854775808) (d := 9223372036854775808) (by omega) (by omega) (by omega) (by omega)
    have h2 := Int.mul_nonneg (a := -d) (b := -d) (by omega) (by omega)
    rw [Int.neg_mul_neg] at h1 h2
    omega
theorem vq (x : Int) : val (x / 18446744073709551616) (x % 18446744073709551616) = x := by unfold val; omega
theorem vq2 {x : Int} (h0 : 0 ≤ x) (h1 : x < 340282366920938463463374607431768211456) : val (x / 18446744073709551616 % 18446744073709551616) (x % 18446744073709551616) = x := by unfold val; omega
theorem wneg {d : Int} (h : -9223372036854775808 ≤ d ∧ d ≤ 9223372036854775807) (h0 : d < 0) : IntKind.u64.wrap (0 - IntKind.u64.wrap d) = -d := by rw [wu64_mod, wu64_mod]; omega
theorem v01 : val 0 1 = 1 := rfl
theorem v04 : val 0 4 = 4 := rfl
theorem v09 : val 0 9 = 9 := rfl
/-- the mask of all classes from one to another -/
def maskZ (l g : Int) : Int := if l ≤ g then p2 (g + 5) - p2 (l + 4) else 0
theorem p2_lt {n m : Int} (hn : 0 ≤ n) (h : n < m) : p2 n < p2 m := by
  have h1 := p2_le (n := n + 1) (m := m) (by omega) (by omega)
  have h2 := p2_succ hn
  have := p2_pos n
  omega
theorem p2_deni {n : Int} (h0 : 0 ≤ n) (h : n ≤ 64) : (2 : Int) ^ (min n.toNat (IntKind.i64).bits) = p2 n := p2_den h0 h
theorem maskZ_rng {l g : Int} (h : -4 ≤ l) (h2 : g ≤ 4) : 0 ≤ maskZ l g ∧ maskZ l g ≤ 511 := by
  unfold maskZ
  split
  · have h1 := p2_lt (n := l + 4) (m := g + 5) (by omega) (by omega)
    have h3 := p2_le (n := g + 5) (m := 9) (by omega) (by omega)
    have h4 := p2_pos (l + 4)
    have h5 : p2 9 = 512 := rfl
    omega
  · omega
theorem maskZ_pos {l g : Int} (h : -4 ≤ l) (h2 : l ≤ g) : 1 ≤ maskZ l g := by
  unfold maskZ
  rw [if_pos h2]
  have h1 := p2_lt (n := l + 4) (m := g + 5) (by omega) (by omega)
  omega
/-- squares, in order -/
theorem sqz_le {a b : Int} (h0 : 0 ≤ a) (h : a ≤ b) : a * a ≤ b * b := Int.mul_le_mul h h h0 (by omega)
theorem sqz_ge {a b : Int} (h0 : b ≤ 0) (h : a ≤ b) : b * b ≤ a * a := by
  have := sqz_le (a := -b) (b := -a) (by omega) (by omega)
  rw [Int.neg_mul_neg, Int.neg_mul_neg] at this; exact this
theorem clsN_mono {q r v w : Int} (h : q ≤ r) (h2 : w ≤ v) : clsN q v ≤ clsN r w := by
  unfold clsN; omega
theorem sqz_pos {a : Int} (h : a ≠ 0) : 0 < a * a := by
  rcases Int.lt_or_gt_of_ne h with h | h
  · exact Int.mul_pos_of_neg_of_neg h h
  · exact Int.mul_pos h h
theorem clsZ_mono {a b v w : Int} (h : a ≤ b) (hs : a < 0 → b < 0 → v ≤ w) (hp : 0 < a → w ≤ v) : clsZ a v ≤ clsZ b w := by
  have r1 := clsN_rng (a * a) v
  have r2 := clsN_rng (b * b) w
  unfold clsZ
  by_cases a0 : a < 0
  · by_cases b0 : b < 0
    · have := clsN_mono (q := b * b) (r := a * a) (v := w) (w := v) (sqz_ge (by omega) h) (hs a0 b0)
      rw [if_neg (by omega), if_pos a0, if_neg (by omega), if_pos b0]; omega
    · rw [if_neg (by omega), if_pos a0]; split <;> first | omega | (split <;> omega)
  · by_cases a1 : a = 0
    · rw [if_pos a1]; split
      · omega
      · rw [if_neg (by omega)]; omega
    · have := clsN_mono (q := a * a) (r := b * b) (v := v) (w := w) (sqz_le (by omega) h) (hp (by omega))
      rw [if_neg a1, if_neg a0, if_neg (by omega), if_neg (by omega)]; omega
def hullLo (a u w : Int) : Int := if 0 < a then clsZ a w else clsZ a u
def hullHi (b u w : Int) : Int := if b < 0 then clsZ b w else clsZ b u
theorem hull_rng (a b u w : Int) : (-4 ≤ hullLo a u w ∧ hullLo a u w ≤ 4) ∧ (-4 ≤ hullHi b u w ∧ hullHi b u w ≤ 4) := by
  have h1 := clsZ_rng a u
  have h2 := clsZ_rng a w
  have h3 := clsZ_rng b u
  have h4 := clsZ_rng b w
  unfold hullLo hullHi
  constructor <;> split <;> omega
/-- whatever lies between has a class between -/
theorem hull_has {a b u w x v : Int} (h1 : a ≤ x) (h2 : x ≤ b) (h3 : u ≤ v) (h4 : v ≤ w) : hullLo a u w ≤ clsZ x v ∧ clsZ x v ≤ hullHi b u w := by
  unfold hullLo hullHi
  constructor
  · split <;> exact clsZ_mono h1 (by omega) (by omega)
  · split <;> exact clsZ_mono h2 (by omega) (by omega)
theorem hull_le {a b u w : Int} (h1 : a ≤ b) (h3 : u ≤ w) : hullLo a u w ≤ hullHi b u w := by
  have := hull_has (a := a) (b := b) (u := u) (w := w) (x := a) (v := u) (by omega) h1 (by omega) h3
  omega
theorem hull_min {a b u w : Int} (h1 : a ≤ b) (h3 : u ≤ w) : min (min (min (clsZ a u) (clsZ a w)) (clsZ b u)) (clsZ b w) = hullLo a u w := by
  have e1 := (hull_has (a := a) (b := b) (u := u) (w := w) (x := a) (v := u) (by omega) h1 (by omega) h3).1
  have e2 := (hull_has (a := a) (b := b) (u := u) (w := w) (x := a) (v := w) (by omega) h1 h3 (by omega)).1
  have e3 := (hull_has (a := a) (b := b) (u := u) (w := w) (x := b) (v := u) h1 (by omega) (by omega) h3).1
  have e4 := (hull_has (a := a) (b := b) (u := u) (w := w) (x := b) (v := w) h1 (by omega) h3 (by omega)).1
  have e5 : hullLo a u w = clsZ a u ∨ hullLo a u w = clsZ a w := by unfold hullLo; split <;> simp
  omega
theorem hull_max {a b u w : Int} (h1 : a ≤ b) (h3 : u ≤ w) : max (max (max (clsZ a u) (clsZ a w)) (clsZ b u)) (clsZ b w) = hullHi b u w := by
  have e1 := (hull_has (a := a) (b := b) (u := u) (w := w) (x := a) (v := u) (by omega) h1 (by omega) h3).2
  have e2 := (hull_has (a := a) (b := b) (u := u) (w := w) (x := a) (v := w) (by omega) h1 h3 (by omega)).2
  have e3 := (hull_has (a := a) (b := b) (u := u) (w := w) (x := b) (v := u) h1 (by omega) (by omega) h3).2
  have e4 := (hull_has (a := a) (b := b) (u := u) (w := w) (x := b) (v := w) h1 (by omega) h3 (by omega)).2
  have e5 : hullHi b u w = clsZ b u ∨ hullHi b u w = clsZ b w := by unfold hullHi; split <;> simp
  omega
theorem mask_shl {l g : Int} (hl : -4 ≤ l) (hg : g ≤ 4) (h : l ≤ g) : IntKind.i64.wrap (IntKind.i64.wrap (IntKind.i64.wrap (1 * 2 ^ min (g - l + 1).toNat IntKind.i64.bits) - 1) * 2 ^ min (l + 4).toNat IntKind.i64.bits) = maskZ l g := by
  have h1 := p2_pos (g - l + 1)
  have h2 := p2_le (n := g - l + 1) (m := 9) (by omega) (by omega)
  have h3 : p2 9 = 512 := rfl
  have h4 := p2_pos (l + 4)
  have h5 := p2_mul (n := g - l + 1) (m := l + 4) (by omega) (by omega)
  have h6 : g - l + 1 + (l + 4) = g + 5 := by omega
  have hm := maskZ_rng hl hg
  have e : (p2 (g - l + 1) - 1) * p2 (l + 4) = maskZ l g := by
    unfold maskZ
    rw [if_pos h, Int.sub_mul, h5, h6, Int.one_mul]
  rw [Int.one_mul, p2_deni (by omega) (by omega), p2_deni (by omega) (by omega), w64 (x := p2 (g - l + 1)) (by omega) (by omega), w64 (x := p2 (g - l + 1) - 1) (by omega) (by omega), e, w64 (by omega) (by omega)]
def hOK (a b hu lu hw lw : Int) : Prop := a ≤ b ∧ ¬ val hw lw < val hu lu ∧ hw < 1152921504606846976
instance decH (a b hu lu hw lw : Int) : Decidable (hOK a b hu lu hw lw) := by unfold hOK; exact inferInstance
end Go.Proofs.YtehoiibnemjkaaaDoor.X
