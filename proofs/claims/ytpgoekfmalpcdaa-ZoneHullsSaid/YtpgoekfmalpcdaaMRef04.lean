/-
  What the reference's sizes and products of ints tell (datumref04), in whole numbers.
-/
import Derived.Test.YtpgoekfmalpcdaaMRefTimes
import Derived.Test.YtpgoekfmalpcdaaMRefAdd
import Derived.Test.YtpgoekfmalpcdaaXx4
import Derived.Test.YtpgoekfmalpcdaaXx5
namespace Go.Proofs.Ytpgoekfmalpcdaa.X
open Go.RowKit Go.Proofs.YtpgoekfmalpcdaaW.PrintWords Go.Proofs.YtpgoekfmalpcdaaW.PrintMore
set_option linter.unusedVariables false
set_option linter.unusedSimpArgs false

theorem Ev.iteT {α : Type} {c : Prop} [Decidable c] {f g : Nat → Option α} {r : α} (hc : c) (h : Ev f r) : Ev (fun k => if c then f k else g k) r := Ev.congr (fun k => by rw [if_pos hc]) h
theorem Ev.iteF {α : Type} {c : Prop} [Decidable c] {f g : Nat → Option α} {r : α} (hc : ¬ c) (h : Ev g r) : Ev (fun k => if c then f k else g k) r := Ev.congr (fun k => by rw [if_neg hc]) h

theorem ev_size (a : Int) (h : -9223372036854775808 ≤ a ∧ a < 9223372036854775808) : Ev (fun k => datumref04_Size.f k a) (0, (a.natAbs : Int)) := by
  unfold datumref04_Size.f
  by_cases c : a < 0
  · refine Ev.iteT c ?_
    have e : IntKind.u64.wrap (wrap64 (-(wrap64 (a + 1)))) = -(a + 1) := by rw [wrap64_id (x := a + 1) (by omega) (by omega), wrap64_id (by omega) (by omega), wrapu_id (by omega) (by omega)]
    have hadd := ev_add 0 (-(a + 1)) 0 1 (by omega) (by omega) (by omega) (by omega)
    rw [e]
    simp only [datumref01_Of.f, Option.bind_some]
    refine Ev.bind (f := fun _ bt => some (bt.1, bt.2.1)) hadd ?_
    refine Ev.congr (fun k => ?_) (Ev.now _)
    simp only [Option.some.injEq, Prod.mk.injEq]
    constructor <;> omega
  · refine Ev.iteF c ?_
    refine Ev.congr (fun k => ?_) (Ev.now _)
    simp only [datumref01_Of.f, Option.bind_some]
    rw [wrapu_id (by omega) (by omega)]
    congr 2; omega

theorem natAbs_prod (a b : Int) (ha : -9223372036854775808 ≤ a ∧ a < 9223372036854775808) (hb : -9223372036854775808 ≤ b ∧ b < 9223372036854775808) :
    0 ≤ (a.natAbs : Int) * b.natAbs ∧ (a.natAbs : Int) * b.natAbs ≤ 85070591730234615865843651857942052864 := by
  refine ⟨Int.mul_nonneg (by omega) (by omega), ?_⟩
  have := Int.mul_le_mul (show (a.natAbs : Int) ≤ 9223372036854775808 by omega) (show (b.natAbs : Int) ≤ 9223372036854775808 by omega) (by omega) (by omega)
  omega

theorem ev_product (a b : Int) (ha : -9223372036854775808 ≤ a ∧ a < 9223372036854775808) (hb : -9223372036854775808 ≤ b ∧ b < 9223372036854775808) :
    Ev (fun k => datumref04_Product.f k a b) (((decide (a < 0)) != (decide (b < 0))) && decide ((a.natAbs : Int) * b.natAbs ≠ 0), (a.natAbs : Int) * b.natAbs / 18446744073709551616, (a.natAbs : Int) * b.natAbs % 18446744073709551616) := by
  have hp := natAbs_prod a b ha hb
  have ht := ev_times 0 (a.natAbs : Int) 0 (b.natAbs : Int) (by omega) (by omega) (by omega) (by omega)
  simp only [Int.zero_mul, Int.zero_add] at ht
  generalize (a.natAbs : Int) * b.natAbs = p at *
  unfold datumref04_Product.f
  refine Ev.bind (f := fun k bt => (datumref04_Size.f k b).bind fun bt2 => ((datumref01_Times.f k bt.1 bt.2 bt2.1 bt2.2).bind fun bt3 => (if ((decide (a < 0)) != (decide (b < 0))) = true then (some ((!(bt3.1 == 0) || (!(bt3.2.1 == 0))), bt3.1, bt3.2.1)) else (some (false, bt3.1, bt3.2.1))))) (ev_size a ha) ?_
  refine Ev.bind (f := fun k bt2 => ((datumref01_Times.f k 0 (a.natAbs : Int) bt2.1 bt2.2).bind fun bt3 => (if ((decide (a < 0)) != (decide (b < 0))) = true then (some ((!(bt3.1 == 0) || (!(bt3.2.1 == 0))), bt3.1, bt3.2.1)) else (some (false, bt3.1, bt3.2.1))))) (ev_size b hb) ?_
  refine Ev.bind (f := fun _ bt3 => (if ((decide (a < 0)) != (decide (b < 0))) = true then (some ((!(bt3.1 == 0) || (!(bt3.2.1 == 0))), bt3.1, bt3.2.1)) else (some (false, bt3.1, bt3.2.1)))) ht ?_
  refine Ev.congr (fun k => ?_) (Ev.now _)
  have e1 : p / 18446744073709551616 % 18446744073709551616 = p / 18446744073709551616 := by omega
  cases hs : ((decide (a < 0)) != (decide (b < 0)))
  · simp [e1]
  · simp only [if_true, e1, Bool.true_and]
    congr 2
    rw [Bool.eq_iff_iff]
    simp
    omega
end Go.Proofs.Ytpgoekfmalpcdaa.X
