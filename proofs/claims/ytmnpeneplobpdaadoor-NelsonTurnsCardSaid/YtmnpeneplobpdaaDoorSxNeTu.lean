/-
  NelsonTurns: masks turned, and windows pushed.
-/
import Derived.Test.YtmnpeneplobpdaaDoorSxNeNa
import Derived.Test.YtmnpeneplobpdaaDoorSxNeTl
namespace Go.Proofs.YtmnpeneplobpdaaDoor.X
open Go Go.SX Go.RowKit
set_option linter.unusedVariables false
set_option linter.unusedSimpArgs false
def tb (m : Nat) : Nat → Nat
  | 0 => 0
  | j + 1 => tb m j + (if m.testBit j then 2 ^ (8 - j) else 0)
theorem tb_all : ∀ i : Fin 512, i.val ≠ 0 → (∀ j : Fin 10, tb i.val j.val ≤ 511) ∧ tb i.val 9 ≠ 0 ∧ ∀ k : Fin 9, (tb i.val 9).testBit k.val = i.val.testBit (8 - k.val) := by decide +kernel
def turnM (m : Int) : Int := (tb m.toNat 9 : Int)
theorem turn_facts {m : Int} (h : IsM m) : (∀ j : Nat, j ≤ 9 → tb m.toNat j ≤ 511) ∧ IsM (turnM m) ∧ ∀ c, has (turnM m) c ↔ has m (-c) := by
  have h1 := h.1; have h2 := h.2
  obtain ⟨a, b, c⟩ := tb_all ⟨m.toNat, by omega⟩ (by show m.toNat ≠ 0; omega)
  have a9 : tb m.toNat 9 ≤ 511 := a 9
  refine ⟨fun j hj => a ⟨j, by omega⟩, ⟨?_, ?_⟩, fun d => ?_⟩
  · unfold turnM; have : tb m.toNat 9 ≠ 0 := b; omega
  · unfold turnM; omega
  · unfold has turnM
    rw [Int.toNat_natCast]
    constructor
    · rintro ⟨q, e⟩
      refine ⟨by omega, ?_⟩
      have := c ⟨(d + 4).toNat, by omega⟩
      have e2 : m.toNat.testBit (8 - (d + 4).toNat) = true := this.symm.trans e
      rw [show (-d + 4).toNat = 8 - (d + 4).toNat by omega]; exact e2
    · rintro ⟨q, e⟩
      refine ⟨by omega, ?_⟩
      have := c ⟨(d + 4).toNat, by omega⟩
      rw [show (-d + 4).toNat = 8 - (d + 4).toNat by omega] at e
      exact this.trans e
theorem getD_neg {row : List Int} {i : Nat} : (row.map fun c => -c).getD i 0 = -(row.getD i 0) := by
  by_cases h : i < row.length
  · simp [List.getD, h]
  · simp [List.getD, h]
theorem getD_turn {ms : List Int} {i : Nat} (h : i < ms.length) : (ms.map turnM).getD i 0 = turnM (ms.getD i 0) := by simp [List.getD, h]
theorem row_turn {ms row : List Int} (hm : ∀ m ∈ ms, IsM m) : Row (ms.map turnM) row ↔ Row ms (row.map fun c => -c) := by
  unfold Row
  rw [List.length_map, List.length_map]
  refine and_congr_right fun hl => ?_
  constructor
  · intro h i hi
    have := h i hi
    rw [getD_turn hi, (turn_facts (hm _ (getD_mem hi))).2.2] at this
    rw [getD_neg]; exact this
  · intro h i hi
    have := h i hi
    rw [getD_neg] at this
    rw [getD_turn hi, (turn_facts (hm _ (getD_mem hi))).2.2]; exact this
theorem neg_neg_map (row : List Int) : (row.map fun c => -c).map (fun c => -c) = row := by
  rw [List.map_map]
  have : ((fun c : Int => -c) ∘ fun c => -c) = id := by funext c; simp
  rw [this, List.map_id]
theorem turn_ms {ms : List Int} (h : IsMs ms) : IsMs (ms.map turnM) := ⟨by rw [List.length_map]; exact h.1, fun m hm => by
  obtain ⟨x, hx, rfl⟩ := List.mem_map.1 hm
  exact (turn_facts (h.2 x hx)).2.1⟩
theorem tell_turn {G : List Int → Prop} {n : Nat} {ms : List Int} (h : IsMs ms) (hG : ∀ row : List Int, G (row.map fun c => -c) ↔ G row) : tellV G n (ms.map turnM) = tellV G n ms := by
  have e1 : tellV G n (ms.map turnM) = ruleV G n (ms.map turnM) := if_pos (turn_ms h)
  have e2 : tellV G n ms = ruleV G n ms := if_pos h
  rw [e1, e2]
  rcases Nat.lt_or_ge ms.length n with q | q
  · rw [ruleV_few q, ruleV_few (by rw [List.length_map]; exact q)]
  · rw [ruleV_of q, ruleV_of (by rw [List.length_map]; exact q)]
    have el : lst n (ms.map turnM) = (lst n ms).map turnM := by unfold lst; rw [List.length_map, List.map_drop]
    have hm := lst_mem (n := n) h.2
    rw [el]
    refine val3_congr ⟨fun a row hr => ?_, fun a row hr => ?_⟩ ⟨?_, ?_⟩
    · have := a (row.map fun c => -c) ((row_turn hm).2 (by rw [neg_neg_map]; exact hr))
      exact (hG row).1 this
    · have := a _ ((row_turn hm).1 hr)
      exact (hG row).1 this
    · rintro ⟨row, hr, g⟩; exact ⟨_, (row_turn hm).1 hr, (hG row).2 g⟩
    · rintro ⟨row, hr, g⟩; exact ⟨row.map fun c => -c, (row_turn hm).2 (by rw [neg_neg_map]; exact hr), (hG row).2 g⟩
theorem all_neg {P : Int → Prop} {row : List Int} : (∀ c ∈ row.map (fun c => -c), P c) ↔ ∀ c ∈ row, P (-c) := by simp
theorem mono_neg {u v : Nat → Bool} (h : ∀ i, u i = !v i) {row : List Int} : Mono u (row.map fun c => -c) ↔ Mono v row := by
  unfold Mono
  rw [List.length_map]
  refine forall_congr' fun i => forall_congr' fun h1 => forall_congr' fun h2 => ?_
  rw [getD_neg, getD_neg, h i]
  cases v i <;> simp
theorem nge_neg {t : Int} {row : List Int} : nge t (row.map fun c => -c) = nle t row := by
  unfold nge nle
  rw [List.filter_map, List.length_map]
  congr 1
  refine List.filter_congr fun c _ => ?_
  simp only [Function.comp, decide_eq_decide]
  omega
theorem nle_neg {t : Int} {row : List Int} : nle t (row.map fun c => -c) = nge t row := by
  unfold nge nle
  rw [List.filter_map, List.length_map]
  congr 1
  refine List.filter_congr fun c _ => ?_
  simp only [Function.comp, decide_eq_decide]
  omega
theorem g1n (row : List Int) : G1 (row.map fun c => -c) ↔ G1 row := by
  unfold G1; rw [all_neg]; exact forall_congr' fun c => forall_congr' fun _ => (by omega)
theorem g2n (row : List Int) : G2 (row.map fun c => -c) ↔ G2 row := by
  unfold G2; rw [all_neg, all_neg, or_comm]
  refine or_congr (forall_congr' fun c => forall_congr' fun _ => (by omega)) (forall_congr' fun c => forall_congr' fun _ => (by omega))
theorem g3n (row : List Int) : G3 (row.map fun c => -c) ↔ G3 row := by
  unfold G3; rw [mono_neg (u := fun _ => true) (v := fun _ => false) (fun _ => rfl), mono_neg (u := fun _ => false) (v := fun _ => true) (fun _ => rfl), or_comm]
theorem g4n (row : List Int) : G4 (row.map fun c => -c) ↔ G4 row := by
  unfold G4
  rw [mono_neg (u := fun i => i % 2 == 0) (v := fun i => i % 2 == 1) (fun i => by rcases Nat.mod_two_eq_zero_or_one i with q | q <;> simp [q]), mono_neg (u := fun i => i % 2 == 1) (v := fun i => i % 2 == 0) (fun i => by rcases Nat.mod_two_eq_zero_or_one i with q | q <;> simp [q]), or_comm]
theorem g5n (row : List Int) : G5 (row.map fun c => -c) ↔ G5 row := by unfold G5; rw [nge_neg, nle_neg, or_comm]
theorem g6n (row : List Int) : G6 (row.map fun c => -c) ↔ G6 row := by unfold G6; rw [nge_neg, nle_neg, or_comm]
theorem g7n (row : List Int) : G7 (row.map fun c => -c) ↔ G7 row := by
  unfold G7; rw [all_neg]; exact forall_congr' fun c => forall_congr' fun _ => (by omega)
theorem g8n (row : List Int) : G8 (row.map fun c => -c) ↔ G8 row := by
  unfold G8; rw [all_neg]; exact forall_congr' fun c => forall_congr' fun _ => (by omega)
/-- a window that ends as the masks do -/
def WinI (ms : List Int) (j : Nat) (w : List Int) : Prop := IsMs w ∧ ∀ n : Nat, n ≤ j → n ≤ 15 → n ≤ w.length ∧ lst n w = lst n (ms.take j)
theorem lst_snoc {k : Nat} {v : List Int} {m : Int} (h : k ≤ v.length) : lst (k + 1) (v ++ [m]) = lst k v ++ [m] := by
  unfold lst
  rw [List.length_append, List.length_singleton, show v.length + 1 - (k + 1) = v.length - k by omega, List.drop_append_of_le_length (by omega)]
theorem lst_drop1 {k : Nat} {v : List Int} (h : k + 1 ≤ v.length) : lst k (v.drop 1) = lst k v := by
  unfold lst
  rw [List.length_drop, List.drop_drop, show 1 + (v.length - 1 - k) = v.length - k by omega]
theorem win_zero {ms w : List Int} (h : IsMs w) : WinI ms 0 w := ⟨h, fun n hn _ => by
  have : n = 0 := by omega
  subst this
  refine ⟨by omega, ?_⟩
  unfold lst; simp⟩
theorem pushV_ms {w : List Int} {m : Int} (h : IsMs w) (hm : IsM m) : IsMs (pushV w m) := by
  have h1 := h.1
  unfold pushV
  split
  · refine ⟨by rw [List.length_append, List.length_singleton]; omega, fun x hx => ?_⟩
    rw [List.mem_append, List.mem_singleton] at hx
    rcases hx with hx | rfl
    · exact h.2 x hx
    · exact hm
  · refine ⟨by rw [List.length_append, List.length_drop, List.length_singleton]; omega, fun x hx => ?_⟩
    rw [List.mem_append, List.mem_singleton] at hx
    rcases hx with hx | rfl
    · exact h.2 x (List.mem_of_mem_drop hx)
    · exact hm
theorem win_step {ms w : List Int} {j : Nat} (h : WinI ms j w) (hj : j < ms.length) (hm : IsM (ms.getD j 0)) : WinI ms (j + 1) (pushV w (ms.getD j 0)) := by
  obtain ⟨h1, h2⟩ := h
  refine ⟨pushV_ms h1 hm, fun n hn h15 => ?_⟩
  cases n with
  | zero => exact ⟨by omega, by unfold lst; simp⟩
  | succ k =>
    obtain ⟨a, b⟩ := h2 k (by omega) (by omega)
    have hl := h1.1
    rw [take_snoc hj, lst_snoc (by rw [List.length_take]; omega), ← b]
    unfold pushV
    split
    · exact ⟨by rw [List.length_append, List.length_singleton]; omega, lst_snoc a⟩
    · exact ⟨by rw [List.length_append, List.length_drop, List.length_singleton]; omega, by rw [lst_snoc (by rw [List.length_drop]; omega), lst_drop1 (by omega)]⟩
theorem win_tell {G : List Int → Prop} {n : Nat} {ms w : List Int} (hms : IsMs ms) (h : WinI ms ms.length w) (hn : n ≤ 15) : (n ≤ ms.length → tellV G n w = tellV G n ms) ∧ (ms.length < n → tellV G n ms = 0) := by
  have e1 : tellV G n w = ruleV G n w := if_pos h.1
  have e2 : tellV G n ms = ruleV G n ms := if_pos hms
  rw [e1, e2]
  refine ⟨fun q => ?_, fun q => ruleV_few q⟩
  obtain ⟨a, b⟩ := h.2 n q hn
  rw [ruleV_of q, ruleV_of a, b, List.take_length]
end Go.Proofs.YtmnpeneplobpdaaDoor.X
