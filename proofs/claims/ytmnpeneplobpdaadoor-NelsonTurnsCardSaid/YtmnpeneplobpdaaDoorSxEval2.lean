/-
  The symbolic executor: operations that only look, or reckon, are told right (their kinds one by one).
-/
import Derived.Test.YtmnpeneplobpdaaDoorSxEval
namespace Go.SX
open Go
set_option linter.unusedVariables false
set_option linter.unusedSimpArgs false

theorem eqGuard_int (P : Program) (w : World) (op : BinOp) (T : TypeId) (x y : Operand) (k k' : IntKind) (a b : Int) : (eqGuard op T x y (.int k a) (.int k' b)).run P w = .ok () w := by
  unfold eqGuard
  cases op <;> simp [Sem.run, pure, Sem.bind, bind]
theorem eqGuard_bool (P : Program) (w : World) (op : BinOp) (T : TypeId) (x y : Operand) (a b : Bool) : (eqGuard op T x y (.bool a) (.bool b)).run P w = .ok () w := by
  unfold eqGuard
  cases op <;> simp [Sem.run, pure, Sem.bind, bind]

/-- what a number told by signs is -/
def VOK (P : Program) (w : World) (ρ : Env) (h : Hid) (r : Result Value) : VR → Prop
  | .val v => r = .ok (v.den ρ h) w
  | .bind e iv k => r = .ok (.int k (e.den ρ)) w ∧ ∀ lo hi, iv = some (lo, hi) → lo ≤ e.den ρ ∧ e.den ρ ≤ hi
  | .need _ _ => False
  | _ => True

section
variable {P : Program} {w : World} {ρ : Env} {h : Hid} {S : St}

theorem bool_eqv (a b : Bool) : (a == b) = true ↔ a = b := by cases a <;> cases b <;> simp

theorem bnot_den (e : BE) : (bnot e).den ρ = !e.den ρ := by
  cases e <;> simp [bnot, BE.den]
theorem band_den (a b : BE) : (band a b).den ρ = (a.den ρ && b.den ρ) := by
  unfold band; split <;> simp [BE.den]
theorem beqv_den (a b : BE) : (beqv a b).den ρ = (a.den ρ == b.den ρ) := by
  unfold beqv; split <;> simp [BE.den, bnot_den]

theorem tmod_rng {x y d : Int} (h : 0 < y) (hd : y ≤ d) : ∀ lo hi, some (1 - d, d - 1) = some (lo, hi) → lo ≤ x.tmod y ∧ x.tmod y ≤ hi := by
  intro lo hi e
  injection e with e; injection e with e1 e2
  subst e1; subst e2
  have h1 := Int.tmod_lt_of_pos x h
  have h2 := Int.tmod_lt_of_pos (-x) h
  rw [Int.neg_tmod] at h2
  omega
theorem neq_of_decide (F : FOK S ρ) {y : At} (h : S.decide (.cmp .eq y (.z 0)) = some false) : y.den ρ ≠ 0 := by
  have h1 := St.decide_sound F h
  intro e
  have h2 : (BE.cmp .eq y (.z 0)).den ρ = true := decide_eq_true (by show y.den ρ = (At.z 0).den ρ; rw [e]; rfl)
  rw [h1] at h2; cases h2
theorem binInt_sound (F : FOK S ρ) (op : BinOp) (T : TypeId) (k : IntKind) (x y : At) :
    VOK P w ρ h ((binOp op T (.int k (x.den ρ)) (.int k (y.den ρ))).run P w) (binInt S op k x y) := by
  cases op
  case add =>
    simp only [binInt, binOp, ne_eq, not_true_eq_false, if_false, Op.intArith, pure, Sem.run]
    split
    · rename_i a b ha hb; simp only [St.lit_sound F ha, St.lit_sound F hb]; simp only [VOK, SV.den, At.den]
    · split
      · rename_i a b c d ha hb
        have h1 := St.rng_sound F ha
        have h2 := St.rng_sound F hb
        split
        · rename_i hw
          have hid := within_id (x := x.den ρ + y.den ρ) hw (by simp only []; omega) (by simp only []; omega)
          simp only [VOK, IE.den, hid, true_and]
          intro lo hi e; injection e with e; injection e with e1 e2; omega
        · simp only [VOK, IE.den, true_and]; exact kiv_rng
      · simp only [VOK, IE.den, true_and]; exact kiv_rng
  case sub =>
    simp only [binInt, binOp, ne_eq, not_true_eq_false, if_false, Op.intArith, pure, Sem.run]
    split
    · rename_i a b ha hb; simp only [St.lit_sound F ha, St.lit_sound F hb]; simp only [VOK, SV.den, At.den]
    · split
      · rename_i a b c d ha hb
        have h1 := St.rng_sound F ha
        have h2 := St.rng_sound F hb
        split
        · rename_i hw
          have hid := within_id (x := x.den ρ - y.den ρ) hw (by simp only []; omega) (by simp only []; omega)
          simp only [VOK, IE.den, hid, true_and]
          intro lo hi e; injection e with e; injection e with e1 e2; omega
        · simp only [VOK, IE.den, true_and]; exact kiv_rng
      · simp only [VOK, IE.den, true_and]; exact kiv_rng
  case mul =>
    simp only [binInt, binOp, ne_eq, not_true_eq_false, if_false, Op.intArith, pure, Sem.run]
    split
    · rename_i a b ha hb; simp only [St.lit_sound F ha, St.lit_sound F hb]; simp only [VOK, SV.den, At.den]
    · split
      · rename_i p q ha hb
        have h1 := St.rng_sound F (a := x) (lo := p.1) (hi := p.2) ha
        have h2 := St.rng_sound F (a := y) (lo := q.1) (hi := q.2) hb
        have h3 := mulIv_sound h1 h2
        split
        · rename_i hw
          have hid := within_id (x := x.den ρ * y.den ρ) hw h3.1 h3.2
          simp only [VOK, IE.den, hid, true_and]
          intro lo hi e; injection e with e; rw [e] at h3; exact h3
        · simp only [VOK, IE.den, true_and]; exact kiv_rng
      · simp only [VOK, IE.den, true_and]; exact kiv_rng
  case quo =>
    simp only [binInt, binOp, ne_eq, not_true_eq_false, if_false]
    split
    · rename_i c d hy
      have h2 := St.rng_sound F hy
      split
      · trivial
      · rename_i hz
        split
        · rename_i hc; rw [ilt_iff] at hc
          have hne : y.den ρ ≠ 0 := by omega
          simp only [Op.intDiv, hne, if_false, pure, Sem.run]
          split
          · rename_i a b hx
            have h1 := St.rng_sound F hx
            split
            · rename_i p q hp hq; simp only [St.lit_sound F hp, St.lit_sound F hq]; simp only [VOK, SV.den, At.den]
            · split
              · rename_i hh; simp only [Bool.and_eq_true, ile_iff] at hh
                have e0 : (x.den ρ).tdiv (y.den ρ) = x.den ρ / y.den ρ := by rw [Int.tdiv_eq_ediv_of_nonneg (by omega)]
                have hq0 : 0 ≤ x.den ρ / y.den ρ := Int.ediv_nonneg (by omega) (by omega)
                have hq1 : x.den ρ / y.den ρ ≤ x.den ρ := Int.ediv_le_self _ (by omega)
                have hid := within_id (x := x.den ρ / y.den ρ) hh.2 (by simpa using hq0) (by simp only []; omega)
                simp only [VOK, IE.den, e0, hid, true_and]
                intro lo hi e; injection e with e; injection e with e1 e2
                subst e1; subst e2
                constructor
                · refine Int.le_trans (b := x.den ρ / d) (Int.ediv_le_ediv (by omega) h1.1) ?_
                  rw [Int.le_ediv_iff_mul_le (by omega)]
                  have hq : 0 ≤ x.den ρ / d := Int.ediv_nonneg (by omega) (by omega)
                  have h5 : x.den ρ / d * y.den ρ ≤ x.den ρ / d * d := Int.mul_le_mul_of_nonneg_left h2.2 hq
                  have h6 := Int.ediv_mul_le (x.den ρ) (b := d) (by omega)
                  omega
                · refine Int.le_trans (b := b / y.den ρ) (Int.ediv_le_ediv (by omega) h1.2) ?_
                  rw [Int.le_ediv_iff_mul_le (by omega)]
                  have hq : 0 ≤ b / y.den ρ := Int.ediv_nonneg (by omega) (by omega)
                  have h5 : b / y.den ρ * c ≤ b / y.den ρ * y.den ρ := Int.mul_le_mul_of_nonneg_left h2.1 hq
                  have h6 := Int.ediv_mul_le b (b := y.den ρ) (by omega)
                  omega
              · simp only [VOK, IE.den, true_and]; exact kiv_rng
          · simp only [VOK, IE.den, true_and]; exact kiv_rng
        · split
          · rename_i hd; rw [ilt_iff] at hd
            have hne : y.den ρ ≠ 0 := by omega
            simp only [Op.intDiv, hne, if_false, pure, Sem.run, VOK, IE.den, true_and]; exact kiv_rng
          · split
            · rename_i hdd
              have hne := neq_of_decide F hdd
              simp only [Op.intDiv, hne, if_false, pure, Sem.run, VOK, IE.den, true_and]; exact kiv_rng
            · trivial
    · trivial
  case rem =>
    simp only [binInt, binOp, ne_eq, not_true_eq_false, if_false]
    split
    · rename_i c d hy
      have h2 := St.rng_sound F hy
      split
      · trivial
      · rename_i hz
        split
        · rename_i hc; rw [ilt_iff] at hc
          have hne : y.den ρ ≠ 0 := by omega
          simp only [Op.intDiv, hne, if_false, pure, Sem.run]
          split
          · rename_i a b hx
            have h1 := St.rng_sound F hx
            split
            · rename_i p q hp hq; simp only [St.lit_sound F hp, St.lit_sound F hq]; simp only [VOK, SV.den, At.den]
            · split
              · rename_i hh; rw [ile_iff] at hh
                have e0 : (x.den ρ).tmod (y.den ρ) = x.den ρ % y.den ρ := by rw [Int.tmod_eq_emod_of_nonneg (by omega)]
                simp only [VOK, IE.den, e0, true_and]
                intro lo hi e; injection e with e; injection e with e1 e2
                subst e1; subst e2
                have g0 := Int.emod_nonneg (x.den ρ) hne
                have g1 := Int.emod_lt_of_pos (x.den ρ) (show 0 < y.den ρ by omega)
                have g2 : x.den ρ % y.den ρ ≤ x.den ρ := by
                  have g3 := Int.mul_ediv_add_emod (x.den ρ) (y.den ρ)
                  have g4 : 0 ≤ y.den ρ * (x.den ρ / y.den ρ) := Int.mul_nonneg (by omega) (Int.ediv_nonneg (by omega) (by omega))
                  omega
                exact ⟨g0, le_imin (by omega) (by omega)⟩
              · simp only [VOK, IE.den, true_and]; exact tmod_rng (by omega) h2.2
          · simp only [VOK, IE.den, true_and]; exact tmod_rng (by omega) h2.2
        · split
          · rename_i hd; rw [ilt_iff] at hd
            have hne : y.den ρ ≠ 0 := by omega
            simp only [Op.intDiv, hne, if_false, pure, Sem.run, VOK, IE.den, true_and]; intro lo hi e; cases e
          · split
            · rename_i hdd
              have hne := neq_of_decide F hdd
              simp only [Op.intDiv, hne, if_false, pure, Sem.run, VOK, IE.den, true_and]; intro lo hi e; cases e
            · trivial
    · trivial
  case and =>
    simp only [binInt, binOp, ne_eq, not_true_eq_false, if_false, Op.intBits, pure, Sem.run]
    split
    · rename_i a b ha hb; simp only [St.lit_sound F ha, St.lit_sound F hb]; simp only [VOK, SV.den, At.den, bitDen]
    · simp only [VOK, IE.den, bitDen, true_and]; exact kiv_rng
  case or =>
    simp only [binInt, binOp, ne_eq, not_true_eq_false, if_false, Op.intBits, pure, Sem.run]
    split
    · rename_i a b ha hb; simp only [St.lit_sound F ha, St.lit_sound F hb]; simp only [VOK, SV.den, At.den, bitDen]
    · simp only [VOK, IE.den, bitDen, true_and]; exact kiv_rng
  case xor =>
    simp only [binInt, binOp, ne_eq, not_true_eq_false, if_false, Op.intBits, pure, Sem.run]
    split
    · rename_i a b ha hb; simp only [St.lit_sound F ha, St.lit_sound F hb]; simp only [VOK, SV.den, At.den, bitDen]
    · simp only [VOK, IE.den, bitDen, true_and]; exact kiv_rng
  case andNot =>
    simp only [binInt, binOp, ne_eq, not_true_eq_false, if_false, Op.intBits, pure, Sem.run]
    split
    · rename_i a b ha hb; simp only [St.lit_sound F ha, St.lit_sound F hb]; simp only [VOK, SV.den, At.den, bitDen]
    · simp only [VOK, IE.den, bitDen, true_and]; exact kiv_rng
  case eql => simp [binInt, binOp, Op.intCmp, VOK, SV.den, BE.den, Cmp.den, Sem.run, pure]; rfl
  case neq => simp [binInt, binOp, Op.intCmp, VOK, SV.den, BE.den, Cmp.den, Sem.run, pure]; rfl
  case lss => simp [binInt, binOp, Op.intCmp, VOK, SV.den, BE.den, Cmp.den, Sem.run, pure]
  case leq => simp [binInt, binOp, Op.intCmp, VOK, SV.den, BE.den, Cmp.den, Sem.run, pure]
  case gtr => simp [binInt, binOp, Op.intCmp, VOK, SV.den, BE.den, Cmp.den, Sem.run, pure]
  case geq => simp [binInt, binOp, Op.intCmp, VOK, SV.den, BE.den, Cmp.den, Sem.run, pure]
  case shl => trivial
  case shr => trivial
end
end Go.SX
