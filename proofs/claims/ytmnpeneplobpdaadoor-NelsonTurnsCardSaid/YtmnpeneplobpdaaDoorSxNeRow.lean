/-
  Rows of classes, one of each mask; what the eight rules say of a row.
-/
import Derived.Test.YtmnpeneplobpdaaDoorSxNeB
namespace Go.Proofs.YtmnpeneplobpdaaDoor.X
open Go Go.SX Go.RowKit
set_option linter.unusedVariables false
set_option linter.unusedSimpArgs false
def Row (ms row : List Int) : Prop := row.length = ms.length ∧ ∀ i : Nat, i < ms.length → has (ms.getD i 0) (row.getD i 0)
def rowOf (n : Nat) (f : Nat → Int) : List Int := (List.range n).map f
theorem rowOf_len {n : Nat} {f : Nat → Int} : (rowOf n f).length = n := by simp [rowOf]
theorem rowOf_get {n : Nat} {f : Nat → Int} {i : Nat} (h : i < n) : (rowOf n f).getD i 0 = f i := by
  unfold rowOf
  simp [List.getD, h]
theorem row_of {ms : List Int} {f : Nat → Int} (h : ∀ i : Nat, i < ms.length → has (ms.getD i 0) (f i)) : Row ms (rowOf ms.length f) :=
  ⟨rowOf_len, fun i hi => by rw [rowOf_get hi]; exact h i hi⟩
theorem row_nil {row : List Int} : Row [] row ↔ row = [] := by
  constructor
  · intro h; exact List.length_eq_zero_iff.1 h.1
  · rintro rfl; exact ⟨rfl, fun i hi => by cases hi⟩
theorem row_cons {m : Int} {ms row : List Int} : Row (m :: ms) row ↔ ∃ c cs, row = c :: cs ∧ has m c ∧ Row ms cs := by
  constructor
  · rintro ⟨h1, h2⟩
    cases row with
    | nil => simp at h1
    | cons c cs =>
      refine ⟨c, cs, rfl, h2 0 (by simp), by simpa using h1, fun i hi => ?_⟩
      have := h2 (i + 1) (by simpa using hi)
      simpa using this
  · rintro ⟨c, cs, rfl, h1, h2, h3⟩
    refine ⟨by simpa using h2, fun i hi => ?_⟩
    cases i with
    | zero => simpa using h1
    | succ i => simpa using h3 i (by simpa using hi)
theorem row_some {ms : List Int} (hm : ∀ m ∈ ms, IsM m) : ∃ row, Row ms row :=
  ⟨rowOf ms.length fun i => loZ (ms.getD i 0), row_of fun i hi => (ends_of (hm _ (getD_mem hi))).2.1⟩
/-- a row that has one class where it is told -/
theorem row_put {ms : List Int} (hm : ∀ m ∈ ms, IsM m) {j : Nat} (hj : j < ms.length) {c : Int} (hc : has (ms.getD j 0) c) : ∃ row, Row ms row ∧ row.getD j 0 = c := by
  refine ⟨rowOf ms.length fun i => if i = j then c else loZ (ms.getD i 0), row_of fun i hi => ?_, by rw [rowOf_get hj, if_pos rfl]⟩
  by_cases h : i = j
  · subst h; rw [if_pos rfl]; exact hc
  · rw [if_neg h]; exact (ends_of (hm _ (getD_mem hi))).2.1
theorem all_row {ms : List Int} (hm : ∀ m ∈ ms, IsM m) {P : Int → Prop} : (∀ row, Row ms row → ∀ c ∈ row, P c) ↔ ∀ m ∈ ms, ∀ c, has m c → P c := by
  constructor
  · intro h m hmm c hc
    obtain ⟨j, hj, rfl⟩ := mem_getD hmm
    obtain ⟨row, hr, rfl⟩ := row_put hm hj hc
    exact h row hr _ (getD_mem (by rw [hr.1]; exact hj))
  · intro h row hr c hc
    obtain ⟨j, hj, rfl⟩ := mem_getD hc
    rw [hr.1] at hj
    exact h _ (getD_mem hj) _ (hr.2 j hj)
theorem some_row {ms : List Int} {P : Int → Prop} : (∃ row, Row ms row ∧ ∀ c ∈ row, P c) ↔ ∀ m ∈ ms, ∃ c, has m c ∧ P c := by
  constructor
  · rintro ⟨row, hr, h⟩ m hmm
    obtain ⟨j, hj, rfl⟩ := mem_getD hmm
    exact ⟨_, hr.2 j hj, h _ (getD_mem (by rw [hr.1]; exact hj))⟩
  · intro h
    have h2 : ∀ i : Nat, ∃ c, i < ms.length → has (ms.getD i 0) c ∧ P c := fun i => by
      by_cases hi : i < ms.length
      · obtain ⟨c, h1, h2⟩ := h _ (getD_mem hi); exact ⟨c, fun _ => ⟨h1, h2⟩⟩
      · exact ⟨0, fun h => absurd h hi⟩
    refine ⟨rowOf ms.length fun i => Classical.choose (h2 i), row_of fun i hi => (Classical.choose_spec (h2 i) hi).1, fun c hc => ?_⟩
    obtain ⟨j, hj, rfl⟩ := mem_getD hc
    rw [rowOf_len] at hj
    rw [rowOf_get hj]
    exact (Classical.choose_spec (h2 j) hj).2
theorem has_rng {m c : Int} (h : has m c) : -4 ≤ c ∧ c ≤ 4 := h.1
theorem each_row {ms : List Int} {a : Int} {P : Int → Prop} (hm : ∀ m ∈ ms, IsM m) (ha : IsM0 a) (hP : ∀ c, -4 ≤ c → c ≤ 4 → (has a c ↔ P c)) (hne : ms ≠ []) :
    eachV ms a = val3 (∀ row, Row ms row → ∀ c ∈ row, P c) (∃ row, Row ms row ∧ ∀ c ∈ row, P c) := by
  unfold eachV
  rw [all_row hm, some_row]
  refine val3_congr ⟨fun h m hmm c hc => (hP c hc.1.1 hc.1.2).1 ((andnot_zero (hm m hmm).m0 ha).1 (h.2 m hmm) c hc), fun h => ⟨hne, fun m hmm => (andnot_zero (hm m hmm).m0 ha).2 fun c hc => (hP c hc.1.1 hc.1.2).2 (h m hmm c hc)⟩⟩
    ⟨fun h m hmm => ?_, fun h => ⟨hne, fun m hmm => ?_⟩⟩
  · obtain ⟨c, h1, h2⟩ := (and_zero (hm m hmm).m0 ha).1 (h.2 m hmm)
    exact ⟨c, h1, (hP c h1.1.1 h1.1.2).1 h2⟩
  · obtain ⟨c, h1, h2⟩ := h m hmm
    exact (and_zero (hm m hmm).m0 ha).2 ⟨c, h1, (hP c h1.1.1 h1.1.2).2 h2⟩
theorem eachV_nil (a : Int) : eachV [] a = 0 := by unfold eachV val3; simp
/-- the last ones -/
def lst (n : Nat) (ms : List Int) : List Int := ms.drop (ms.length - n)
theorem lst_mem {n : Nat} {ms : List Int} (hm : ∀ m ∈ ms, IsM m) : ∀ m ∈ lst n ms, IsM m := fun m h => hm m (List.mem_of_mem_drop h)
theorem lst_len {n : Nat} {ms : List Int} (h : n ≤ ms.length) : (lst n ms).length = n := by unfold lst; rw [List.length_drop]; omega
theorem lst_ne {n : Nat} {ms : List Int} (h : n ≤ ms.length) (hn : 0 < n) : lst n ms ≠ [] := fun e => by have := lst_len h; rw [e] at this; simp at this; omega
theorem last_pt {ms : List Int} {n : Int} (k : Nat) (hk : n = (k : Int)) (h : n ≤ (ms.length : Int)) : List.take (((ms.length : Int).toNat - ((ms.length : Int) - n).toNat) * 3) (List.drop (((ms.length : Int) - n).toNat * 3) (ptOf ms)) = ptOf (lst k ms) := by
  rw [pt_drop, pt_take]
  unfold lst
  have e : ((ms.length : Int) - n).toNat = ms.length - k := by omega
  rw [e, List.take_of_length_le (by rw [List.length_drop]; omega)]
theorem isP_lst {n : Nat} {ms : List Int} (hm : ∀ m ∈ ms, IsM m) (hl : ms.length ≤ 15) : IsP (ptOf (lst n ms)) := ⟨_, rfl, lst_mem hm, by unfold lst; rw [List.length_drop]; omega⟩
/-- what a rule says of the last masks: surely, perhaps, not -/
noncomputable def ruleV (G : List Int → Prop) (n : Nat) (ms : List Int) : Int := by
  classical exact if ms.length < n then 0 else val3 (∀ row, Row (lst n ms) row → G row) (∃ row, Row (lst n ms) row ∧ G row)
theorem ruleV_few {G : List Int → Prop} {n : Nat} {ms : List Int} (h : ms.length < n) : ruleV G n ms = 0 := by unfold ruleV; rw [if_pos h]
theorem ruleV_of {G : List Int → Prop} {n : Nat} {ms : List Int} (h : n ≤ ms.length) : ruleV G n ms = val3 (∀ row, Row (lst n ms) row → G row) (∃ row, Row (lst n ms) row ∧ G row) := by unfold ruleV; rw [if_neg (by omega)]
theorem ruleV_rng (G : List Int → Prop) (n : Nat) (ms : List Int) : 0 ≤ ruleV G n ms ∧ ruleV G n ms ≤ 2 := by
  unfold ruleV; split
  · omega
  · exact val3_rng _ _
/-- the greater of two tellings -/
theorem val3_max (A B A' B' : Prop) : (if val3 A B < val3 A' B' then val3 A' B' else val3 A B) = val3 (A ∨ A') (B ∨ B') := by
  unfold val3
  by_cases a : A <;> by_cases b : B <;> by_cases a' : A' <;> by_cases b' : B' <;> simp [a, b, a', b']
/-- if each row goes one way or the other, then all go the same way -/
theorem either_all {ms : List Int} {A B : List Int → Prop} (k : Nat) (hx : ∀ r s, Row ms r → Row ms s → B r → A s → Row ms (s.take k ++ r.drop k) → (A (s.take k ++ r.drop k) ∨ B (s.take k ++ r.drop k)) → False) :
    (∀ row, Row ms row → A row ∨ B row) ↔ (∀ row, Row ms row → A row) ∨ (∀ row, Row ms row → B row) := by
  constructor
  · intro h
    by_cases ha : ∀ row, Row ms row → A row
    · exact .inl ha
    · by_cases hb : ∀ row, Row ms row → B row
      · exact .inr hb
      · exfalso
        obtain ⟨r, hr⟩ := Classical.not_forall.1 ha
        obtain ⟨hr, hra⟩ := Classical.not_imp.1 hr
        obtain ⟨s, hs⟩ := Classical.not_forall.1 hb
        obtain ⟨hs, hsb⟩ := Classical.not_imp.1 hs
        have ht : Row ms (s.take k ++ r.drop k) := by
          refine ⟨by rw [List.length_append, List.length_take, List.length_drop, hr.1, hs.1]; omega, fun i hi => ?_⟩
          have e : (s.take k ++ r.drop k).getD i 0 = if i < k then s.getD i 0 else r.getD i 0 := by
            have h1 := hr.1; have h2 := hs.1
            by_cases q : i < k
            · rw [if_pos q]; simp [List.getD, List.getElem?_append, q, h2, hi, List.length_take, show i < min k ms.length by omega]
            · rw [if_neg q]
              by_cases kk : k ≤ ms.length
              · simp [List.getD, List.getElem?_append, List.length_take, h2, Nat.min_eq_left kk, q, List.getElem?_drop, show k + (i - k) = i by omega]
              · omega
          rw [e]; split
          · exact hs.2 i hi
          · exact hr.2 i hi
        exact hx r s hr hs ((h r hr).resolve_left hra) ((h s hs).resolve_right hsb) ht (h _ ht)
  · rintro (h | h) row hr
    · exact .inl (h row hr)
    · exact .inr (h row hr)
theorem ex_or {ms : List Int} {A B : List Int → Prop} : (∃ row, Row ms row ∧ (A row ∨ B row)) ↔ (∃ row, Row ms row ∧ A row) ∨ (∃ row, Row ms row ∧ B row) := by
  constructor
  · rintro ⟨row, h, h1 | h1⟩
    · exact .inl ⟨row, h, h1⟩
    · exact .inr ⟨row, h, h1⟩
  · rintro (⟨row, h, h1⟩ | ⟨row, h, h1⟩)
    · exact ⟨row, h, .inl h1⟩
    · exact ⟨row, h, .inr h1⟩
/-- steps of a row: up or down, as it is told -/
def Mono (u : Nat → Bool) (row : List Int) : Prop := ∀ i : Nat, 1 ≤ i → i < row.length → if u i = true then row.getD (i - 1) 0 < row.getD i 0 else row.getD i 0 < row.getD (i - 1) 0
def nge (t : Int) (row : List Int) : Nat := (row.filter fun c => decide (t ≤ c)).length
def nle (t : Int) (row : List Int) : Nat := (row.filter fun c => decide (c ≤ -t)).length
def G1 (row : List Int) : Prop := ∀ c ∈ row, 4 ≤ c ∨ c ≤ -4
def G2 (row : List Int) : Prop := (∀ c ∈ row, 1 ≤ c) ∨ (∀ c ∈ row, c ≤ -1)
def G3 (row : List Int) : Prop := Mono (fun _ => true) row ∨ Mono (fun _ => false) row
def G4 (row : List Int) : Prop := Mono (fun i => i % 2 == 0) row ∨ Mono (fun i => i % 2 == 1) row
def G5 (row : List Int) : Prop := 2 ≤ nge 3 row ∨ 2 ≤ nle 3 row
def G6 (row : List Int) : Prop := 4 ≤ nge 2 row ∨ 4 ≤ nle 2 row
def G7 (row : List Int) : Prop := ∀ c ∈ row, -1 ≤ c ∧ c ≤ 1
def G8 (row : List Int) : Prop := ∀ c ∈ row, 2 ≤ c ∨ c ≤ -2
end Go.Proofs.YtmnpeneplobpdaaDoor.X
