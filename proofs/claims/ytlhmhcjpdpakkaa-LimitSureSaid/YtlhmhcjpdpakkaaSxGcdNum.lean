/-
  What divides two numbers, as numbers; the contract of divide.Lowest.
-/
import Derived.Test.YtlhmhcjpdpakkaaSxGcd
namespace Go.Proofs.Ytlhmhcjpdpakkaa.X
open Go Go.SX Go.RowKit
set_option linter.unusedVariables false
set_option linter.unusedSimpArgs false


theorem gcdZ_nat (a b : Nat) : gcdZ (a : Int) (b : Int) = (Nat.gcd a b : Int) := by simp [gcdZ]
theorem gcdZ_comm (u v : Int) : gcdZ u v = gcdZ v u := by unfold gcdZ; rw [Nat.gcd_comm]
theorem gcdZ_mul {u v k : Int} (hu : 0 ≤ u) (hv : 0 ≤ v) (hk : 0 ≤ k) : gcdZ (u * k) (v * k) = gcdZ u v * k := by
  obtain ⟨a, rfl⟩ := Int.eq_ofNat_of_zero_le hu
  obtain ⟨b, rfl⟩ := Int.eq_ofNat_of_zero_le hv
  obtain ⟨c, rfl⟩ := Int.eq_ofNat_of_zero_le hk
  rw [← Int.natCast_mul, ← Int.natCast_mul, gcdZ_nat, gcdZ_nat, ← Int.natCast_mul, Nat.gcd_mul_right]
theorem gcdZ_eq_zero {u v : Int} (hu : 0 ≤ u) (hv : 0 ≤ v) : gcdZ u v = 0 ↔ u = 0 ∧ v = 0 := by
  obtain ⟨a, rfl⟩ := Int.eq_ofNat_of_zero_le hu
  obtain ⟨b, rfl⟩ := Int.eq_ofNat_of_zero_le hv
  rw [gcdZ_nat]
  have := Nat.gcd_eq_zero_iff (i := a) (j := b)
  omega
theorem gcdZ_nonneg (u v : Int) : 0 ≤ gcdZ u v := by unfold gcdZ; omega
theorem gcdZ_dvd {u v : Int} (hu : 0 ≤ u) (hv : 0 ≤ v) : u % gcdZ u v = 0 ∧ v % gcdZ u v = 0 := by
  obtain ⟨a, rfl⟩ := Int.eq_ofNat_of_zero_le hu
  obtain ⟨b, rfl⟩ := Int.eq_ofNat_of_zero_le hv
  rw [gcdZ_nat]
  have h1 := Nat.mod_eq_zero_of_dvd (Nat.gcd_dvd_left a b)
  have h2 := Nat.mod_eq_zero_of_dvd (Nat.gcd_dvd_right a b)
  exact ⟨by exact_mod_cast h1, by exact_mod_cast h2⟩
theorem gcdZ_div {u v : Int} (hu : 0 ≤ u) (hv : 0 ≤ v) (hg : gcdZ u v ≠ 0) : gcdZ (u / gcdZ u v) (v / gcdZ u v) = 1 := by
  obtain ⟨a, rfl⟩ := Int.eq_ofNat_of_zero_le hu
  obtain ⟨b, rfl⟩ := Int.eq_ofNat_of_zero_le hv
  rw [gcdZ_nat] at *
  rw [← Int.natCast_ediv, ← Int.natCast_ediv, gcdZ_nat]
  have : Nat.gcd (a / Nat.gcd a b) (b / Nat.gcd a b) = 1 := by
    rw [Nat.gcd_div (Nat.gcd_dvd_left a b) (Nat.gcd_dvd_right a b)]
    exact Nat.div_self (by omega)
  omega
/-- what is left of two, by what divides both -/
def lowX (u v : Int) : Int := if v = 0 then 0 else u / gcdZ u v
def lowY (u v : Int) : Int := if v = 0 then 0 else v / gcdZ u v
theorem low_rng {u v : Int} (hu : 0 ≤ u ∧ u < 340282366920938463463374607431768211456) (hv : 0 ≤ v ∧ v < 340282366920938463463374607431768211456) : (0 ≤ lowX u v ∧ lowX u v < 340282366920938463463374607431768211456) ∧ (0 ≤ lowY u v ∧ lowY u v < 340282366920938463463374607431768211456) := by
  have hg := gcdZ_nonneg u v
  unfold lowX lowY
  split
  · omega
  · have h1 := Int.ediv_nonneg hu.1 hg
    have h2 := Int.ediv_nonneg hv.1 hg
    have h3 := Int.ediv_le_self (a := u) (gcdZ u v) hu.1
    have h4 := Int.ediv_le_self (a := v) (gcdZ u v) hv.1
    omega
theorem val_split (g : Int) (h : 0 ≤ g ∧ g < 340282366920938463463374607431768211456) (g1 g0 : Int) (h1 : g1 = g / 18446744073709551616) (h0 : g0 = g % 18446744073709551616) : val g1 g0 = g := by
  unfold val; omega
def glow_sp : SpecSh := { args := [(.agg [(.int .u64 (.z 0)), (.int .u64 (.z 0))]), (.agg [(.int .u64 (.z 0)), (.int .u64 (.z 0))])], res := (.tup [(.agg [(.int .u64 (.z 0)), (.int .u64 (.z 0))]), (.agg [(.int .u64 (.z 0)), (.int .u64 (.z 0))]), (.int .i64 (.z 0))]), sh := [.i (some (0, 18446744073709551615)), .i (some (0, 18446744073709551615)), .i (some (0, 18446744073709551615)), .i (some (0, 18446744073709551615)), .i (some ((-9223372036854775808), 9223372036854775807))] }
set_option maxRecDepth 100000 in
def glow_tree : Tree :=
.ite (.and (.cmp .eq (.v 2) (.z 0)) (.cmp .eq (.v 3) (.z 0))) (.ret (.tup [(.agg [(.int .u64 (.z 0)), (.int .u64 (.z 0))]), (.agg [(.int .u64 (.z 0)), (.int .u64 (.z 0))]), (.int .i64 (.z 4))])) <|
.call 102 [.i (some (0, 18446744073709551615)), .i (some (0, 18446744073709551615))] [.i (.v 0), .i (.v 1), .i (.v 2), .i (.v 3)] <|
.call 115 [.i (some (0, 18446744073709551615)), .i (some (0, 18446744073709551615)), .i (some (0, 18446744073709551615)), .i (some (0, 18446744073709551615)), .i (some ((-9223372036854775808), 9223372036854775807))] [.i (.v 0), .i (.v 1), .i (.v 4), .i (.v 5)] <|
.call 115 [.i (some (0, 18446744073709551615)), .i (some (0, 18446744073709551615)), .i (some (0, 18446744073709551615)), .i (some (0, 18446744073709551615)), .i (some ((-9223372036854775808), 9223372036854775807))] [.i (.v 2), .i (.v 3), .i (.v 4), .i (.v 5)] <|
.ret (.tup [(.agg [(.int .u64 (.v 6)), (.int .u64 (.v 7))]), (.agg [(.int .u64 (.v 11)), (.int .u64 (.v 12))]), (.int .i64 (.z 0))])
noncomputable def glow_cx : Ctx := { tys := tys, fns := fns, sps := [(102, ggcd_sp), (115, wdiv_sp)], anns := [], trys := [] }
def glow_ivs : List (Option (Int × Int)) := [some (0, 18446744073709551615), some (0, 18446744073709551615), some (0, 18446744073709551615), some (0, 18446744073709551615)]
set_option maxRecDepth 100000 in
theorem glow_walk : runFn glow_cx 3000 154 Try.f154 glow_sp.args glow_ivs = glow_tree := by kernel_rfl
noncomputable def glow_M : Nat → SpecSem
  | 102 => ggcd_sem
  | 115 => wdiv_sem
  | _ => noSem
theorem glow_M102 : glow_M 102 = ggcd_sem := rfl
theorem glow_M115 : glow_M 115 = wdiv_sem := rfl
theorem glow_cxok : CxOK Try.prog glow_cx glow_M := ⟨tysOK, fnsOK, spCons ggcd_ok <| spCons wdiv_ok <| fun _ _ h => spNil h, mixedOK, fun _ _ h => trNil h⟩

def glow_sem : SpecSem := { pre := fun cs => match cs with | [.i a, .i b, .i c, .i d] => IsU a ∧ IsU b ∧ IsU c ∧ IsU d | _ => False, out := fun cs => match cs with | [.i a, .i b, .i c, .i d] => [.i (lowX (val a b) (val c d) / 18446744073709551616), .i (lowX (val a b) (val c d) % 18446744073709551616), .i (lowY (val a b) (val c d) / 18446744073709551616), .i (lowY (val a b) (val c d) % 18446744073709551616), .i (if val c d = 0 then 4 else 0)] | _ => [] }
theorem glow_ok : SpecOK Try.prog 154 glow_sp glow_sem := by
  refine spec_of_tree glow_cxok Try.func154 (by kernel_rfl) (by kernel_rfl) glow_walk rfl ?_
  intro cs hpre
  match cs, hpre with
  | [.i a, .i b, .i c, .i d], ⟨⟨h1, h2⟩, ⟨h3, h4⟩, ⟨h5, h6⟩, ⟨h7, h8⟩⟩ =>
    have hab : 0 ≤ val a b ∧ val a b < 340282366920938463463374607431768211456 := by unfold val; omega
    have hcd : 0 ≤ val c d ∧ val c d < 340282366920938463463374607431768211456 := by unfold val; omega
    obtain ⟨⟨l1, l2⟩, ⟨l3, l4⟩⟩ := low_rng hab hcd
    have hg := gcdZ_rng hab hcd
    refine ⟨rfl, IvsB.ok (by simp only [glow_ivs, IvsB, Cv.int, and_true]; omega), ?_, ?_⟩
    · simp only [glow_sem, glow_sp, Fits, and_true]; split <;> omega
    · simp only [glow_sem, glow_sp, IsU, divQ, divR, glow_tree, glow_M102, ggcd_sem, glow_M115, wdiv_sem, Tree.den, LE.den, Cv.list, placeA, List.getElem?_cons_zero, List.getElem?_cons_succ, IE.den, BE.den, At.den, CA.den, Env.get, Cv.int, Cv.bool, List.cons_append, List.nil_append, List.map_cons, List.map_nil, bindRes, bindEq, Fits, SV.den, denL, place, placeL, eq_t, eq_f, lt_t, lt_f, le_t, le_f, beq_iff_eq, beq_eq_false_iff_ne, ne_eq, reduceCtorEq, b_dec, decide_eq_true_eq, decide_eq_false_iff_not, Bool.not_eq_false', Bool.or_eq_true, Bool.or_eq_false_iff, Bool.and_eq_false_iff, true_iff, false_iff, Bool.false_eq_true, Bool.not_eq_true', Bool.and_eq_true, Bool.not_true, Bool.not_false, List.cons.injEq, Cv.i.injEq, Cv.b.injEq, and_true, true_and, agg_inj, tup_inj, Value.int.injEq, Value.bool.injEq]
      refine ⟨fun hz => ?_, fun hz => ⟨by omega, ?_⟩⟩
      · have : val c d = 0 := by unfold val; omega
        unfold lowX lowY
        simp only [this, if_true, if_true, if_false, true_and, and_true, false_and, and_false, true_or, or_true, false_or, or_false, true_iff, iff_true, false_iff, iff_false, not_true_eq_false, not_false_eq_true, true_implies, false_implies, implies_true, forall_const, decide_true, decide_false, reduceCtorEq]
        omega
      · have hz' : val c d ≠ 0 := fun h => by unfold val at h; omega
        have hg0 : gcdZ (val a b) (val c d) ≠ 0 := fun h => hz' ((gcdZ_eq_zero hab.1 hcd.1).1 h).2
        intro g1 hg1 _ _ g0 hgg0 _ _
        have hv := val_split _ hg g1 g0 hg1 hgg0
        unfold lowX lowY
        simp only [hz', hv, hg0, if_false, if_true, if_false, true_and, and_true, false_and, and_false, true_or, or_true, false_or, or_false, true_iff, iff_true, false_iff, iff_false, not_true_eq_false, not_false_eq_true, true_implies, false_implies, implies_true, forall_const, decide_true, decide_false, reduceCtorEq]
        (repeat' (first | intro _ | refine And.intro ?_ ?_ | exact trivial)) <;> omega
end Go.Proofs.Ytlhmhcjpdpakkaa.X
