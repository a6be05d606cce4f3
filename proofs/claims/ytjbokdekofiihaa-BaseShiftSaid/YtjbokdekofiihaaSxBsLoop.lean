/-
  Loops over rows: what is so at their heads.
-/
import Derived.Test.YtjbokdekofiihaaSxBsNar
namespace Go.Proofs.Ytjbokdekofiihaa.X
open Go Go.SX
set_option linter.unusedVariables false
set_option linter.unusedSimpArgs false
theorem join2 {P Q R S X G : Prop} (hx : P → Q → X) (hg : (P → R → G)) {G' : Prop} (hg' : S → G') : (P → (Q → X) ∧ (R → G)) ∧ (S → G') := ⟨fun p => ⟨hx p, hg p⟩, hg'⟩
/-- the loop that makes rows, from any numbers -/
def rowsI (Z K : Int) : List Cv → Prop := fun vs => match vs with
  | [.l g, .l _] => ∃ L, g = enc L ∧ RowsK Z K L
  | _ => False
def rowsMu : List Cv → Nat := fun vs => match vs with
  | [.l _, .l rest] => rest.length
  | _ => 0
def rowI (K : Int) (q : List Int) : List Cv → Prop := fun vs => match vs with
  | [.i i, .l r] => (0 ≤ i ∧ i ≤ (q.length : Int)) ∧ (r.length : Int) = i ∧ inK K r
  | _ => False
def rowMu (q : List Int) : List Cv → Nat := fun vs => match vs with
  | [.i i, .l _] => ((q.length : Int) - i).toNat
  | _ => 0
theorem clamp_in {K y : Int} (hK : 0 ≤ K) : -K ≤ (if K < (if y < -K then -K else y) then K else if y < -K then -K else y) ∧ (if K < (if y < -K then -K else y) then K else if y < -K then -K else y) ≤ K := by
  (repeat' split) <;> omega
/-- the sum of all samples, row by row -/
def sumI (L : List (List Int)) : List Cv → Prop := fun vs => match vs with
  | [.i j, .i s] => (0 ≤ j ∧ j ≤ (L.length : Int)) ∧ s = bSn L j.toNat
  | _ => False
def sumMu (L : List (List Int)) : List Cv → Nat := fun vs => match vs with
  | [.i j, .i _] => ((L.length : Int) - j).toNat
  | _ => 0
def sumI1 (s0 : Int) (r : List Int) : List Cv → Prop := fun vs => match vs with
  | [.i k, .i s] => (0 ≤ k ∧ k ≤ (r.length : Int)) ∧ s = s0 + sumL (r.take k.toNat)
  | _ => False
def sumMu1 (r : List Int) : List Cv → Nat := fun vs => match vs with
  | [.i k, .i _] => ((r.length : Int) - k).toNat
  | _ => 0
theorem sum_take {r : List Int} {k : Int} (h0 : 0 ≤ k) (h1 : k < (r.length : Int)) : sumL (r.take (k + 1).toNat) = sumL (r.take k.toNat) + r.getD k.toNat 0 := by
  have hk : k.toNat < r.length := by omega
  rw [show (k + 1).toNat = k.toNat + 1 by omega, ← List.take_append_getElem hk, sumL_append]
  simp [sumL, List.getD, hk]
theorem part_rng {z : Int} {L : List (List Int)} (h : RowsOK z L) {j k : Int} (h0 : 0 ≤ j) (h1 : j < (L.length : Int)) (k0 : 0 ≤ k) (k1 : k ≤ ((L.getD j.toNat []).length : Int)) :
    -250000000 ≤ bSn L j.toNat + sumL ((L.getD j.toNat []).take k.toNat) ∧ bSn L j.toNat + sumL ((L.getD j.toNat []).take k.toNat) ≤ 250000000 := by
  have hs := bSn_rng h j.toNat (by omega)
  obtain ⟨h2, h3, h4⟩ := h
  obtain ⟨h5, h6⟩ := h4 _ (getD_row (show j.toNat < L.length by omega))
  have hr := sum_rng (K := 1000000) ((L.getD j.toNat []).take k.toNat) (fun x hx => h6 x (List.mem_of_mem_take hx))
  have hl : (((L.getD j.toNat []).take k.toNat).length : Int) ≤ z := by rw [List.length_take]; omega
  have e : ((j.toNat : Nat) : Int) * z ≤ 24 * z := Int.mul_le_mul_of_nonneg_right (by omega) (by omega)
  generalize ((j.toNat : Nat) : Int) * z = w at *
  omega
end Go.Proofs.Ytjbokdekofiihaa.X
