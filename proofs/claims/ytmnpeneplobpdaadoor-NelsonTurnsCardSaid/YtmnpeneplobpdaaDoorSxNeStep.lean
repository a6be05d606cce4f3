/-
  Steps up and down, as the loop of steps finds them.
-/
import Derived.Test.YtmnpeneplobpdaaDoorSxNeRow
namespace Go.Proofs.YtmnpeneplobpdaaDoor.X
open Go Go.SX Go.RowKit
set_option linter.unusedVariables false
set_option linter.unusedSimpArgs false
theorem getD_take {l : List Int} {n j : Nat} (h : j < n) : (l.take n).getD j 0 = l.getD j 0 := by simp [List.getD, List.getElem?_take, h]
theorem getD_app_l {l : List Int} {c : Int} {j : Nat} (h : j < l.length) : (l ++ [c]).getD j 0 = l.getD j 0 := by simp [List.getD, List.getElem?_append, h]
theorem getD_app_r {l : List Int} {c : Int} {j : Nat} (h : j = l.length) : (l ++ [c]).getD j 0 = c := by subst h; simp [List.getD]
def StepE (u : Nat → Bool) (ms : List Int) (j : Nat) : Prop := if u j = true then hiZ (ms.getD (j - 1) 0) < loZ (ms.getD j 0) else hiZ (ms.getD j 0) < loZ (ms.getD (j - 1) 0)
theorem stepE_all {u : Nat → Bool} {ms : List Int} (hm : ∀ m ∈ ms, IsM m) : (∀ j : Nat, 1 ≤ j → j < ms.length → StepE u ms j) ↔ ∀ row, Row ms row → Mono u row := by
  constructor
  · intro h row hr i h1 h2
    rw [hr.1] at h2
    have a := h i h1 h2
    have b := (ends_of (hm _ (getD_mem h2))).2.2.2 _ (hr.2 i h2)
    have c := (ends_of (hm _ (getD_mem (show i - 1 < ms.length by omega)))).2.2.2 _ (hr.2 (i - 1) (by omega))
    unfold StepE at a
    split <;> rename_i hu
    · rw [if_pos hu] at a; omega
    · rw [if_neg hu] at a; omega
  · intro h j h1 h2
    unfold StepE
    split <;> rename_i hu
    · have hr : Row ms (rowOf ms.length fun i => if i = j - 1 then hiZ (ms.getD i 0) else loZ (ms.getD i 0)) := row_of fun i hi => by
        have := ends_of (hm _ (getD_mem hi))
        split
        · exact this.2.2.1
        · exact this.2.1
      have := h _ hr j h1 (by rw [rowOf_len]; exact h2)
      rw [if_pos hu, rowOf_get h2, rowOf_get (by omega), if_pos rfl, if_neg (by omega)] at this
      exact this
    · have hr : Row ms (rowOf ms.length fun i => if i = j then hiZ (ms.getD i 0) else loZ (ms.getD i 0)) := row_of fun i hi => by
        have := ends_of (hm _ (getD_mem hi))
        split
        · exact this.2.2.1
        · exact this.2.1
      have := h _ hr j h1 (by rw [rowOf_len]; exact h2)
      rw [if_neg hu, rowOf_get h2, rowOf_get (by omega), if_pos rfl, if_neg (by omega)] at this
      exact this
/-- the last classes of the rows so far -/
def Rch (u : Nat → Bool) (ms : List Int) (i : Nat) (c : Int) : Prop := ∃ row, Row (ms.take i) row ∧ Mono u row ∧ row.getD (i - 1) 0 = c
theorem take_len {ms : List Int} {i : Nat} (h : i ≤ ms.length) : (ms.take i).length = i := by rw [List.length_take]; omega
theorem rch_one {u : Nat → Bool} {ms : List Int} {c : Int} (h : 0 < ms.length) : Rch u ms 1 c ↔ has (ms.getD 0 0) c := by
  constructor
  · rintro ⟨row, h1, h2, rfl⟩
    have := h1.2 0 (by rw [take_len (by omega)]; omega)
    rw [getD_take (by omega)] at this
    exact this
  · intro hc
    refine ⟨[c], ⟨by rw [take_len (by omega)]; rfl, fun i hi => ?_⟩, fun i h1 h2 => ?_, rfl⟩
    · rw [take_len (by omega)] at hi
      have : i = 0 := by omega
      subst this
      rw [getD_take (by omega)]; exact hc
    · simp at h2; omega
theorem rch_step {u : Nat → Bool} {ms : List Int} {i : Nat} {c : Int} (h1 : 1 ≤ i) (h : i < ms.length) : Rch u ms (i + 1) c ↔ has (ms.getD i 0) c ∧ ∃ c', Rch u ms i c' ∧ (if u i = true then c' < c else c < c') := by
  constructor
  · rintro ⟨row, ⟨a1, a2⟩, b, rfl⟩
    rw [take_len (by omega)] at a1
    have k := a2 i (by rw [take_len (by omega)]; omega)
    rw [getD_take (by omega)] at k
    refine ⟨k, row.getD (i - 1) 0, ⟨row.take i, ⟨by rw [List.length_take, take_len (by omega)]; omega, fun j hj => ?_⟩, fun j j1 j2 => ?_, getD_take (by omega)⟩, ?_⟩
    · rw [take_len (by omega)] at hj
      have := a2 j (by rw [take_len (by omega)]; omega)
      rw [getD_take (by omega)] at this
      rw [getD_take hj, getD_take hj]; exact this
    · rw [List.length_take] at j2
      rw [getD_take (by omega), getD_take (by omega)]
      exact b j j1 (by omega)
    · exact b i h1 (by omega)
  · rintro ⟨hc, c', ⟨row, ⟨a1, a2⟩, b, rfl⟩, hs⟩
    rw [take_len (by omega)] at a1
    refine ⟨row ++ [c], ⟨by rw [take_len (by omega), List.length_append, a1]; rfl, fun j hj => ?_⟩, fun j j1 j2 => ?_, getD_app_r (by omega)⟩
    · rw [take_len (by omega)] at hj
      rw [getD_take hj]
      by_cases q : j < i
      · have := a2 j (by rw [take_len (by omega)]; omega)
        rw [getD_take q] at this
        rw [getD_app_l (by omega)]; exact this
      · have : j = i := by omega
        subst this
        rw [getD_app_r (by omega)]; exact hc
    · rw [List.length_append, a1] at j2
      have j2 : j < i + 1 := j2
      by_cases q : j < i
      · rw [getD_app_l (by omega), getD_app_l (by omega)]
        exact b j j1 (by omega)
      · have : j = i := by omega
        subst this
        have t1 : (row ++ [c]).getD j 0 = c := getD_app_r (by omega)
        have t2 : (row ++ [c]).getD (j - 1) 0 = row.getD (j - 1) 0 := getD_app_l (by omega)
        rw [t1, t2]; exact hs
def stI (u : Nat → Bool) (ms : List Int) : List Cv → Prop := fun vs => match vs with
  | [.b e, .b s, .i g, .i i] => (0 ≤ i ∧ i ≤ (ms.length : Int)) ∧ IsM0 g ∧ (e = true ↔ ms ≠ [] ∧ ∀ j : Nat, 1 ≤ j → (j : Int) < i → StepE u ms j) ∧ (s = true ↔ ms ≠ [] ∧ (1 ≤ i → ∃ c, Rch u ms i.toNat c)) ∧ (s = true → 1 ≤ i → ∀ c, has g c ↔ Rch u ms i.toNat c)
  | _ => False
def stMu : List Cv → Nat := fun vs => match vs with
  | [.b _, .b _, .i _, .i i] => (100 - i).toNat
  | _ => 0
theorem ne_len {ms : List Int} : 0 < (ms.length : Int) ↔ ms ≠ [] := by cases ms <;> simp <;> omega
theorem st_zero {u : Nat → Bool} {ms : List Int} : stI u ms [.b (Cmp.lt.den 0 (ms.length : Int)), .b (Cmp.lt.den 0 (ms.length : Int)), .i 0, .i 0] := by
  refine ⟨⟨by omega, by omega⟩, ⟨by omega, by omega⟩, ?_, ?_, fun _ h => by omega⟩
  · rw [lt_t, ne_len]; exact ⟨fun h => ⟨h, fun j h1 h2 => by omega⟩, fun h => h.1⟩
  · rw [lt_t, ne_len]; exact ⟨fun h => ⟨h, fun h1 => by omega⟩, fun h => h.1⟩
theorem st_one {u : Nat → Bool} {ms : List Int} {e s : Bool} {g : Int} (hm : ∀ m ∈ ms, IsM m) (h : stI u ms [.b e, .b s, .i g, .i 0]) (hlt : 0 < (ms.length : Int)) : stI u ms [.b e, .b s, .i (ms.getD 0 0), .i 1] := by
  obtain ⟨h1, h2, h3, h4, h5⟩ := h
  have hM := hm _ (getD_mem (show 0 < ms.length by omega))
  refine ⟨⟨by omega, by omega⟩, hM.m0, ?_, ?_, fun _ _ c => (rch_one (by omega)).symm⟩
  · rw [h3]; exact and_congr_right fun _ => ⟨fun _ j a b => by omega, fun _ j a b => by omega⟩
  · rw [h4]; exact and_congr_right fun _ => ⟨fun _ _ => ⟨_, (rch_one (by omega)).2 (ends_of hM).2.1⟩, fun _ h => by omega⟩
def gm (g : Int) : Int := if g < 1 then 1 else g
theorem gm_rng {g : Int} (h : IsM0 g) : IsM (gm g) := by unfold gm; have := h.2; split <;> exact ⟨by omega, by omega⟩
theorem st_step {u : Nat → Bool} {ms : List Int} {e s e' s' : Bool} {g g' i : Int} (hm : ∀ m ∈ ms, IsM m) (h : stI u ms [.b e, .b s, .i g, .i i]) (h1 : 1 ≤ i) (hlt : i < (ms.length : Int))
    (he1 : e = true → (e' = true ↔ StepE u ms i.toNat)) (he0 : e = false → e' = false) (hs1 : s = true → (s' = true ↔ g' ≠ 0)) (hs0 : s = false → s' = false) (hg : IsM0 g')
    (hgc : ∀ c, has g' c ↔ has (ms.getD i.toNat 0) c ∧ if u i.toNat = true then loZ (gm g) < c else c < hiZ (gm g)) : stI u ms [.b e', .b s', .i g', .i (i + 1)] := by
  obtain ⟨h2, h3, h4, h5, h6⟩ := h
  have ei : (i + 1).toNat = i.toNat + 1 := by omega
  have hne : ms ≠ [] := ne_len.1 (by omega)
  have key : s = true → ∀ c, has g' c ↔ Rch u ms (i + 1).toNat c := fun hs c => by
    have k := h6 hs h1
    obtain ⟨d, hd⟩ := (h5.1 hs).2 h1
    have hgn : g ≠ 0 := (has_ne h3).2 ⟨d, (k d).2 hd⟩
    have hM : IsM g := ⟨by have := h3.1; omega, h3.2⟩
    have eg : gm g = g := by unfold gm; rw [if_neg (by have := hM.1; omega)]
    obtain ⟨e1, e2, e3, e4⟩ := ends_of hM
    rw [hgc, ei, rch_step (by omega) (by omega), eg]
    refine and_congr_right fun _ => ?_
    by_cases hu : u i.toNat = true
    · simp only [if_pos hu]
      constructor
      · intro q; exact ⟨loZ g, (k _).1 e2, q⟩
      · rintro ⟨c', hc', q⟩; have := e4 c' ((k c').2 hc'); omega
    · simp only [if_neg hu]
      constructor
      · intro q; exact ⟨hiZ g, (k _).1 e3, q⟩
      · rintro ⟨c', hc', q⟩; have := e4 c' ((k c').2 hc'); omega
  refine ⟨⟨by omega, by omega⟩, hg, ?_, ?_, fun hs _ => key ?_⟩
  · refine bstep h4 ?_ he1 he0
    constructor
    · rintro ⟨a, b⟩; exact ⟨⟨a, fun j j1 j2 => b j j1 (by omega)⟩, b i.toNat (by omega) (by omega)⟩
    · rintro ⟨⟨a, b⟩, c⟩
      refine ⟨a, fun j j1 j2 => ?_⟩
      by_cases q : (j : Int) < i
      · exact b j j1 q
      · have : j = i.toNat := by omega
        subst this; exact c
  · cases hs : s
    · rw [hs0 hs]
      refine ⟨fun q => (by cases q), fun q => ?_⟩
      exfalso
      obtain ⟨c, hc⟩ := q.2 (by omega)
      rw [ei, rch_step (by omega) (by omega)] at hc
      obtain ⟨_, c', hc', _⟩ := hc
      have := h5.2 ⟨hne, fun _ => ⟨c', hc'⟩⟩
      rw [hs] at this; cases this
    · rw [hs1 hs, has_ne hg]
      exact ⟨fun ⟨c, hc⟩ => ⟨hne, fun _ => ⟨c, (key hs c).1 hc⟩⟩, fun q => by obtain ⟨c, hc⟩ := q.2 (by omega); exact ⟨c, (key hs c).2 hc⟩⟩
  · cases hs' : s
    · rw [hs0 hs'] at hs; cases hs
    · rfl
noncomputable def stepsV (u : Nat → Bool) (ms : List Int) : Int := val3 (ms ≠ [] ∧ ∀ row, Row ms row → Mono u row) (ms ≠ [] ∧ ∃ row, Row ms row ∧ Mono u row)
theorem st_end {u : Nat → Bool} {ms : List Int} {e s : Bool} {g i : Int} (hm : ∀ m ∈ ms, IsM m) (h : stI u ms [.b e, .b s, .i g, .i i]) (hge : (ms.length : Int) ≤ i) : (if e = true then (2 : Int) else if s = true then 1 else 0) = stepsV u ms := by
  obtain ⟨h2, h3, h4, h5, h6⟩ := h
  have ei : i.toNat = ms.length := by omega
  refine val3_bool ?_ ?_
  · rw [h4]
    refine and_congr_right fun hne => ?_
    rw [← stepE_all hm]
    exact ⟨fun q j a b => q j a (by omega), fun q j a b => q j a (by omega)⟩
  · rw [h5]
    refine and_congr_right fun hne => ?_
    have := ne_len.2 hne
    rw [ei]
    constructor
    · intro q
      obtain ⟨c, row, a, b, _⟩ := q (by omega)
      rw [List.take_length] at a
      exact ⟨row, a, b⟩
    · rintro ⟨row, a, b⟩ _
      exact ⟨_, row, by rw [List.take_length]; exact a, b, rfl⟩
theorem stepsV_nil (u : Nat → Bool) : stepsV u [] = 0 := by unfold stepsV val3; simp
theorem stepsV_rng (u : Nat → Bool) (ms : List Int) : 0 ≤ stepsV u ms ∧ stepsV u ms ≤ 2 := val3_rng _ _
/-- both ways -/
theorem steps_max {u v : Nat → Bool} {ms : List Int} (hm : ∀ m ∈ ms, IsM m) (h : 4 ≤ ms.length) (huv : ∀ i, u i = !v i) :
    (if stepsV u ms < stepsV v ms then stepsV v ms else stepsV u ms) = val3 (∀ row, Row ms row → Mono u row ∨ Mono v row) (∃ row, Row ms row ∧ (Mono u row ∨ Mono v row)) := by
  have hne : ms ≠ [] := ne_len.1 (by omega)
  unfold stepsV
  rw [val3_max]
  refine val3_congr ?_ ?_
  · rw [either_all 2 (fun r s hr hs b a ht hab => ?_)]
    · simp only [hne, ne_eq, not_false_eq_true, true_and]
    · have l1 := hr.1; have l2 := hs.1
      obtain ⟨s0, s1, s', rfl⟩ : ∃ a b l, s = a :: b :: l := by
        match s, l2 with
        | [], l2 => simp at l2; omega
        | [_], l2 => simp at l2; omega
        | a :: b :: l, _ => exact ⟨a, b, l, rfl⟩
      obtain ⟨r0, r1, r2, r3, r', rfl⟩ : ∃ a b c d l, r = a :: b :: c :: d :: l := by
        match r, l1 with
        | [], l1 => simp at l1; omega
        | [_], l1 => simp at l1; omega
        | [_, _], l1 => simp at l1; omega
        | [_, _, _], l1 => simp at l1; omega
        | a :: b :: c :: d :: l, _ => exact ⟨a, b, c, d, l, rfl⟩
      have q1 := a 1 (by omega) (by simp)
      have q3 := b 3 (by omega) (by simp)
      have u1 := huv 1; have u3 := huv 3
      rcases hab with hab | hab
      · have p3 := hab 3 (by omega) (by simp)
        simp at q3 p3
        cases hv : v 3
        · rw [hv] at q3 u3; simp only [Bool.not_false] at u3; rw [u3] at p3; simp at q3 p3; omega
        · rw [hv] at q3 u3; simp only [Bool.not_true] at u3; rw [u3] at p3; simp at q3 p3; omega
      · have p1 := hab 1 (by omega) (by simp)
        simp at q1 p1
        cases hv : v 1
        · rw [hv] at p1 u1; simp only [Bool.not_false] at u1; rw [u1] at q1; simp at q1 p1; omega
        · rw [hv] at p1 u1; simp only [Bool.not_true] at u1; rw [u1] at q1; simp at q1 p1; omega
  · rw [ex_or]
    simp only [hne, ne_eq, not_false_eq_true, true_and]
end Go.Proofs.YtmnpeneplobpdaaDoor.X
