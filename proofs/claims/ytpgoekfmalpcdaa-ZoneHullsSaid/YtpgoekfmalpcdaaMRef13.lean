/-
  What the reference tells of classes (datumref13), in whole numbers.
-/
import Derived.Test.YtpgoekfmalpcdaaMRef04
import Derived.Test.YtpgoekfmalpcdaaMZone
import Derived.Test.YtpgoekfmalpcdaaXx6
namespace Go.Proofs.Ytpgoekfmalpcdaa.X
open Go.RowKit Go.Proofs.YtpgoekfmalpcdaaW.PrintWords Go.Proofs.YtpgoekfmalpcdaaW.PrintMore
set_option linter.unusedVariables false
set_option linter.unusedSimpArgs false

theorem refless_ok (a b c d : Int) (h0 : 0 ≤ b ∧ b < 18446744073709551616) (h1 : 0 ≤ d ∧ d < 18446744073709551616) : datumref01_Less.f a b c d = some (decide (a * 18446744073709551616 + b < c * 18446744073709551616 + d)) := by
  unfold datumref01_Less.f
  by_cases h : a = c
  · rw [if_pos h]; subst h; congr 1; rw [Bool.eq_iff_iff, decide_eq_true_eq, decide_eq_true_eq]; omega
  · rw [if_neg h]; congr 1; rw [Bool.eq_iff_iff, decide_eq_true_eq, decide_eq_true_eq]; omega

theorem class_l0 (d vh vl sh sl : Int) (hd : -9223372036854775808 ≤ d ∧ d < 9223372036854775808) (h1 : 0 ≤ vh ∧ vh < 1152921504606846976) (h2 : 0 ≤ vl ∧ vl < 18446744073709551616) (h3 : 0 ≤ sl ∧ sl < 18446744073709551616) (hs : sh * 18446744073709551616 + sl = d * d) (n : Nat) : ∀ i : Nat, i + n = 3 →
    Ev (fun k => datumref13_Class.l0 k d (1 + stepsN (d * d) (vh * 18446744073709551616 + vl) i) ((i : Int) + 1) vh vl sh sl) (if d < 0 then -(1 + stepsN (d * d) (vh * 18446744073709551616 + vl) 3) else 1 + stepsN (d * d) (vh * 18446744073709551616 + vl) 3) := by
  induction n with
  | zero =>
    intro i hi
    obtain rfl : i = 3 := by omega
    have hb := stepsN_le (d * d) (vh * 18446744073709551616 + vl) 3
    refine Ev.step (f := fun _ => some (if d < 0 then -(1 + stepsN (d * d) (vh * 18446744073709551616 + vl) 3) else 1 + stepsN (d * d) (vh * 18446744073709551616 + vl) 3)) (fun k => ?_) (Ev.now _)
    simp only [datumref13_Class.l0]
    rw [if_neg (by omega)]
    split
    · rw [wrap64_id (by omega) (by omega)]
    · rfl
  | succ n ih =>
    intro i hi
    have hi3 : (i : Int) + 1 ≤ 3 := by omega
    have ei : wrap64 ((i : Int) + 1 + 1) = ((i + 1 : Nat) : Int) + 1 := by rw [wrap64_id (by omega) (by omega)]; rfl
    have ih' := ih (i + 1) (by omega)
    have hsq : ((i : Int) + 1) * ((i : Int) + 1) ≤ 9 ∧ 0 ≤ ((i : Int) + 1) * ((i : Int) + 1) := by
      have : i = 0 ∨ i = 1 ∨ i = 2 := by omega
      rcases this with rfl | rfl | rfl <;> decide
    have hb := stepsN_le (d * d) (vh * 18446744073709551616 + vl) i
    have hpb : ((i : Int) + 1) * ((i : Int) + 1) * (vh * 18446744073709551616 + vl) ≤ 9 * (vh * 18446744073709551616 + vl) := Int.mul_le_mul_of_nonneg_right hsq.1 (by omega)
    have hpn : 0 ≤ ((i : Int) + 1) * ((i : Int) + 1) * (vh * 18446744073709551616 + vl) := Int.mul_nonneg hsq.2 (by omega)
    have hst : stepsN (d * d) (vh * 18446744073709551616 + vl) (i + 1) = stepsN (d * d) (vh * 18446744073709551616 + vl) i + (if ((i : Int) + 1) * ((i : Int) + 1) * (vh * 18446744073709551616 + vl) < d * d then 1 else 0) := rfl
    have HST := Aside0.mk hst
    clear hst
    generalize hq : ((i : Int) + 1) * ((i : Int) + 1) = q at *
    have e1 : wrap64 q = q := wrap64_id (by omega) (by omega)
    have e2 : IntKind.u64.wrap q = q := wrapu_id (by omega) (by omega)
    have ht := ev_times 0 q vh vl (by omega) (by omega) (by omega) h2
    simp only [Int.zero_mul, Int.zero_add] at ht
    generalize q * (vh * 18446744073709551616 + vl) = p at *
    have hless : p / 18446744073709551616 % 18446744073709551616 * 18446744073709551616 + p % 18446744073709551616 = p := by omega
    have hpm : 0 ≤ p % 18446744073709551616 ∧ p % 18446744073709551616 < 18446744073709551616 := by omega
    have ew : wrap64 (1 + stepsN (d * d) (vh * 18446744073709551616 + vl) i + 1) = 1 + stepsN (d * d) (vh * 18446744073709551616 + vl) i + 1 := wrap64_id (by omega) (by omega)
    refine Ev.step (f := fun k => (datumref01_Times.f k 0 q vh vl).bind fun bt => (datumref01_Less.f bt.1 bt.2.1 sh sl).bind fun t => if t = true then datumref13_Class.l0 k d (wrap64 (1 + stepsN (d * d) (vh * 18446744073709551616 + vl) i + 1)) (wrap64 ((i : Int) + 1 + 1)) vh vl sh sl else datumref13_Class.l0 k d (1 + stepsN (d * d) (vh * 18446744073709551616 + vl) i) (wrap64 ((i : Int) + 1 + 1)) vh vl sh sl) (fun k => ?_) ?_
    · simp only [datumref13_Class.l0, hi3, if_true, datumref01_Of.f, Option.bind_some, hq, e1, e2]
    · refine Ev.bind (f := fun k bt => (datumref01_Less.f bt.1 bt.2.1 sh sl).bind fun t => if t = true then datumref13_Class.l0 k d (wrap64 (1 + stepsN (d * d) (vh * 18446744073709551616 + vl) i + 1)) (wrap64 ((i : Int) + 1 + 1)) vh vl sh sl else datumref13_Class.l0 k d (1 + stepsN (d * d) (vh * 18446744073709551616 + vl) i) (wrap64 ((i : Int) + 1 + 1)) vh vl sh sl) ht ?_
      refine Ev.congr (fun k => ?_) ih'
      dsimp only
      rw [refless_ok _ _ _ _ hpm h3, hless, hs, HST.out, ei, ew]
      by_cases c : p < d * d
      · simp only [c, decide_true, Option.bind_some, if_true]
        rw [Int.add_right_comm, Int.add_assoc 1 1, Int.add_comm 1 (stepsN _ _ _), ← Int.add_assoc]
      · simp only [c, decide_false, Option.bind_some, Bool.false_eq_true, if_false, Int.add_zero]

theorem ev_class (d vh vl : Int) (hd : -9223372036854775808 ≤ d ∧ d < 9223372036854775808) (h1 : 0 ≤ vh ∧ vh < 1152921504606846976) (h2 : 0 ≤ vl ∧ vl < 18446744073709551616) :
    Ev (fun k => datumref13_Class.f k d vh vl) (zcls d (vh * 18446744073709551616 + vl)) := by
  unfold datumref13_Class.f zcls
  by_cases c : d = 0
  · rw [if_pos c]
    exact Ev.iteT c (Ev.now _)
  · rw [if_neg c]
    refine Ev.iteF c ?_
    have hp := natAbs_prod d d hd hd
    have e : (d.natAbs : Int) * d.natAbs = d * d := Int.natAbs_mul_self
    have hpr := ev_product d d hd hd
    rw [e] at hp hpr
    refine Ev.bind (f := fun k bt => datumref13_Class.l0 k d 1 1 vh vl bt.2.1 bt.2.2) hpr ?_
    exact class_l0 d vh vl (d * d / 18446744073709551616) (d * d % 18446744073709551616) hd h1 h2 (by omega) (by omega) 3 0 (by omega)
end Go.Proofs.Ytpgoekfmalpcdaa.X
