/-
  Rows turned, and moved, as loops make them.
-/
import Derived.Test.YtjbokdekofiihaaSxBsLoop
import Derived.Test.YtjbokdekofiihaaSxBsFold2
namespace Go.Proofs.Ytjbokdekofiihaa.X
open Go Go.SX
set_option linter.unusedVariables false
set_option linter.unusedSimpArgs false
def turnP (L : List (List Int)) (n : Nat) : List (List Int) := ((L.drop n).map List.reverse).reverse
def moveP (c : Int) (L : List (List Int)) (n : Nat) : List (List Int) := (L.take n).map (List.map (· + c))
def turnI (L : List (List Int)) : List Cv → Prop := fun vs => match vs with
  | [.i i, .l g] => (-1 ≤ i ∧ i ≤ (L.length : Int) - 1) ∧ g = enc (turnP L (i + 1).toNat)
  | _ => False
def turnMu : List Cv → Nat := fun vs => match vs with
  | [.i i, .l _] => (i + 1).toNat
  | _ => 0
def revI (r : List Int) : List Cv → Prop := fun vs => match vs with
  | [.i k, .l q] => (-1 ≤ k ∧ k ≤ (r.length : Int) - 1) ∧ q = (r.drop (k + 1).toNat).reverse
  | _ => False
def movI (c : Int) (L : List (List Int)) : List Cv → Prop := fun vs => match vs with
  | [.i j, .l g] => (0 ≤ j ∧ j ≤ (L.length : Int)) ∧ g = enc (moveP c L j.toNat)
  | _ => False
def movMu (L : List (List Int)) : List Cv → Nat := fun vs => match vs with
  | [.i j, .l _] => ((L.length : Int) - j).toNat
  | _ => 0
def addI (c : Int) (r : List Int) : List Cv → Prop := fun vs => match vs with
  | [.i k, .l q] => (0 ≤ k ∧ k ≤ (r.length : Int)) ∧ q = (r.take k.toNat).map (· + c)
  | _ => False
theorem turn_step {L : List (List Int)} {i : Int} (h0 : 0 ≤ i) (h1 : i < (L.length : Int)) : turnP L i.toNat = turnP L (i + 1).toNat ++ [(L.getD i.toNat []).reverse] := by
  have hk : i.toNat < L.length := by omega
  have e : L.getD i.toNat [] = L[i.toNat] := by simp [List.getD, hk]
  unfold turnP
  rw [List.drop_eq_getElem_cons hk, show (i + 1).toNat = i.toNat + 1 by omega, List.map_cons, List.reverse_cons, e]
theorem rev_step {r : List Int} {k : Int} (h0 : 0 ≤ k) (h1 : k < (r.length : Int)) : (r.drop k.toNat).reverse = (r.drop (k + 1).toNat).reverse ++ [r.getD k.toNat 0] := by
  have hk : k.toNat < r.length := by omega
  rw [List.drop_eq_getElem_cons hk, show (k + 1).toNat = k.toNat + 1 by omega]
  simp [List.getD, hk]
theorem move_step {c : Int} {L : List (List Int)} {j : Int} (h0 : 0 ≤ j) (h1 : j < (L.length : Int)) : moveP c L (j + 1).toNat = moveP c L j.toNat ++ [(L.getD j.toNat []).map (· + c)] := by
  unfold moveP
  rw [show (j + 1).toNat = j.toNat + 1 by omega, take_row (by omega), List.map_append]
  rfl
theorem add_step {c : Int} {r : List Int} {k : Int} (h0 : 0 ≤ k) (h1 : k < (r.length : Int)) : (r.take (k + 1).toNat).map (· + c) = (r.take k.toNat).map (· + c) ++ [r.getD k.toNat 0 + c] := by
  have hk : k.toNat < r.length := by omega
  rw [show (k + 1).toNat = k.toNat + 1 by omega, ← List.take_append_getElem hk, List.map_append]
  simp [List.getD, hk]
theorem turnP_all {L : List (List Int)} : turnP L 0 = turnL L := by unfold turnP turnL; rw [List.drop_zero]
theorem moveP_all {c : Int} {L : List (List Int)} : moveP c L L.length = L.map (List.map (· + c)) := by unfold moveP; rw [List.take_length]
theorem RowsK.turn {z K : Int} {L : List (List Int)} (h : RowsK z K L) (n : Nat) : RowsK z K (turnP L n) := by
  refine ⟨h.1, ?_, fun r hr => ?_⟩
  · unfold turnP; rw [List.length_reverse, List.length_map, List.length_drop]; have := h.2.1; omega
  · unfold turnP at hr
    rw [List.mem_reverse, List.mem_map] at hr
    obtain ⟨q, hq, rfl⟩ := hr
    obtain ⟨h1, h2⟩ := h.2.2 q (List.mem_of_mem_drop hq)
    exact ⟨by rw [List.length_reverse]; exact h1, fun x hx => h2 x (List.mem_reverse.1 hx)⟩
theorem RowsK.move {z K c C : Int} {L : List (List Int)} (h : RowsK z K L) (hc : -C ≤ c ∧ c ≤ C) (n : Nat) : RowsK z (K + C) (moveP c L n) := by
  refine ⟨h.1, ?_, fun r hr => ?_⟩
  · unfold moveP; rw [List.length_map, List.length_take]; have := h.2.1; omega
  · unfold moveP at hr
    rw [List.mem_map] at hr
    obtain ⟨q, hq, rfl⟩ := hr
    obtain ⟨h1, h2⟩ := h.2.2 q (List.mem_of_mem_take hq)
    refine ⟨by rw [List.length_map]; exact h1, fun x hx => ?_⟩
    obtain ⟨y, hy, rfl⟩ := List.mem_map.1 hx
    have := h2 y hy
    show -(K + C) ≤ y + c ∧ y + c ≤ K + C
    omega
theorem bpN_rng {z m : Int} (hz : 1 ≤ z ∧ z ≤ 10) (hm : 0 ≤ m ∧ m ≤ 25) : -100000000 ≤ bpN z m ∧ bpN z m ≤ 100000000 := by
  have h1 : (m - 1) * m ≤ 24 * m := Int.mul_le_mul_of_nonneg_right (by omega) hm.1
  have h2 : -1 * m ≤ (m - 1) * m := Int.mul_le_mul_of_nonneg_right (by omega) hm.1
  have h3 : m * z ≤ 25 * z := Int.mul_le_mul_of_nonneg_right hm.2 (by omega)
  have h4 : 0 ≤ m * z := Int.mul_nonneg hm.1 (by omega)
  unfold bpN
  split
  · rw [Int.mul_assoc]; omega
  · rw [Int.mul_assoc]; omega
theorem shift_D (z m s x c : Int) : bpD z m (s + m * z * c) (x + c * z) = bpD z m s x := by
  unfold bpD
  have e : (x + c * z) * m - (s + m * z * c) = x * m - s := by
    rw [Int.add_mul, show c * z * m = m * z * c by rw [Int.mul_comm c z, Int.mul_assoc, Int.mul_comm c m, ← Int.mul_assoc, Int.mul_comm z m]]
    omega
  rw [e]
theorem shift_C (z m s c : Int) : bpC z m (s + m * z * c) = bpC z m s + c * bpN z m := by
  unfold bpC bpN
  by_cases hz : z = 1
  · subst hz
    simp only [if_true]
    rw [Int.mul_add, Int.mul_one, Int.mul_comm c (11280 * (m - 1) * m), ← Int.mul_assoc]
  · simp only [if_neg hz]
    rw [Int.mul_add, Int.mul_comm c (30000 * m * z), Int.mul_assoc 30000 m z, Int.mul_assoc 30000 (m * z) c]
end Go.Proofs.Ytjbokdekofiihaa.X
