/-
  The reference's sets of states.
-/
import Derived.Test.YtmnpeneplobpdaaDoorSxNeR2
import Derived.Test.YtmnpeneplobpdaaDoorSxNeC
namespace Go.Proofs.YtmnpeneplobpdaaDoor.X
open Go Go.SX Go.RowKit
set_option linter.unusedVariables false
set_option linter.unusedSimpArgs false
abbrev z4 : St4 := (0, 0, 0, 0)
def fl : List St4 → List Int
  | [] => []
  | s :: r => s.1 :: s.2.1 :: s.2.2.1 :: s.2.2.2 :: fl r
theorem fl_len : ∀ L : List St4, (fl L).length = 4 * L.length
  | [] => rfl
  | s :: r => by unfold fl; simp only [List.length_cons]; rw [fl_len r]; omega
theorem fl_cnt (L : List St4) : (((fl L).length / 4 : Nat) : Int) = (L.length : Int) := by rw [fl_len]; omega
theorem fl_get : ∀ (L : List St4) (q : Nat), q < L.length → (fl L).getD (q * 4 + 0) 0 = (L.getD q z4).1 ∧ (fl L).getD (q * 4 + 1) 0 = (L.getD q z4).2.1 ∧ (fl L).getD (q * 4 + 2) 0 = (L.getD q z4).2.2.1 ∧ (fl L).getD (q * 4 + 3) 0 = (L.getD q z4).2.2.2
  | [], q, h => by cases h
  | s :: r, 0, h => ⟨rfl, rfl, rfl, rfl⟩
  | s :: r, q + 1, h => by
    have := fl_get r q (by simpa using h)
    unfold fl
    rw [show (q + 1) * 4 + 0 = (q * 4 + 0) + 1 + 1 + 1 + 1 by omega, show (q + 1) * 4 + 1 = (q * 4 + 1) + 1 + 1 + 1 + 1 by omega, show (q + 1) * 4 + 2 = (q * 4 + 2) + 1 + 1 + 1 + 1 by omega, show (q + 1) * 4 + 3 = (q * 4 + 3) + 1 + 1 + 1 + 1 by omega]
    simpa using this
theorem fl_app : ∀ (L : List St4) (s : St4), fl L ++ [s.1, s.2.1, s.2.2.1, s.2.2.2] = fl (L ++ [s])
  | [], s => rfl
  | a :: r, s => by
    show a.1 :: a.2.1 :: a.2.2.1 :: a.2.2.2 :: (fl r ++ [s.1, s.2.1, s.2.2.1, s.2.2.2]) = _
    rw [fl_app r s]; rfl
def StN (n : Int) (s : St4) : Prop := StR s ∧ s.1 = n
theorem inI_fl {n : Int} (hn : 0 ≤ n ∧ n ≤ 15) : ∀ L : List St4, (∀ s ∈ L, StN n s) → InI (fl L)
  | [], _ => inI_nil
  | s :: r, h => by
    have i := inI_fl hn r fun x hx => h x (by simp [hx])
    obtain ⟨⟨h1, h2, h3, h4⟩, h5⟩ := h s (by simp)
    intro y hy
    unfold fl at hy
    simp only [List.mem_cons] at hy
    rcases hy with rfl | rfl | rfl | rfl | hy
    · omega
    · omega
    · omega
    · omega
    · exact i y hy
theorem getD_memS {L : List St4} {q : Nat} (h : q < L.length) : L.getD q z4 ∈ L := by
  have : L.getD q z4 = L[q] := by simp [List.getD, h]
  rw [this]; exact List.getElem_mem h
theorem mem_getDS {L : List St4} {s : St4} (h : s ∈ L) : ∃ q : Nat, q < L.length ∧ L.getD q z4 = s := by
  obtain ⟨q, hq, rfl⟩ := List.mem_iff_getElem.1 h
  exact ⟨q, hq, by simp [List.getD, hq]⟩
theorem pig {f : St4 → Nat} : ∀ (N : Nat) (L : List St4), L.Nodup → (∀ x ∈ L, ∀ y ∈ L, f x = f y → x = y) → (∀ x ∈ L, f x < N) → L.length ≤ N
  | 0, L, _, _, h => by
    cases L with
    | nil => simp
    | cons x r => exact absurd (h x (by simp)) (Nat.not_lt_zero _)
  | N + 1, L, hn, hi, h => by
    by_cases hx : ∃ x ∈ L, f x = N
    · obtain ⟨x, hm, hf⟩ := hx
      have k := pig N (L.erase x) (hn.erase x) (fun a ha b hb => hi a (List.mem_of_mem_erase ha) b (List.mem_of_mem_erase hb)) fun y hy => by
        have q := (hn.mem_erase_iff).1 hy
        have h1 := h y q.2
        have h2 : f y ≠ N := fun e => q.1 (hi y q.2 x hm (e.trans hf.symm))
        omega
      rw [List.length_erase_of_mem hm] at k
      omega
    · have k := pig N L hn hi fun y hy => by
        have h1 := h y hy
        have h2 : f y ≠ N := fun e => hx ⟨y, hy, e⟩
        omega
      omega
theorem few_states {n : Int} (hn : 0 ≤ n ∧ n ≤ 15) {L : List St4} (hd : L.Nodup) (h : ∀ s ∈ L, StN n s) : L.length ≤ 2304 := by
  refine pig (f := fun s => (s.2.1.toNat * 16 + s.2.2.1.toNat) * 9 + (s.2.2.2 + 4).toNat) 2304 L hd (fun x hx y hy e => ?_) (fun x hx => ?_)
  · obtain ⟨⟨h1, h2, h3, h4⟩, h5⟩ := h x hx
    obtain ⟨⟨g1, g2, g3, g4⟩, g5⟩ := h y hy
    obtain ⟨x1, x2, x3, x4⟩ := x
    obtain ⟨y1, y2, y3, y4⟩ := y
    simp only at *
    have e1 : x1 = y1 := by omega
    have e2 : x2 = y2 := by omega
    have e3 : x3 = y3 := by omega
    have e4 : x4 = y4 := by omega
    rw [e1, e2, e3, e4]
  · obtain ⟨⟨h1, h2, h3, h4⟩, h5⟩ := h x hx
    show (x.2.1.toNat * 16 + x.2.2.1.toNat) * 9 + (x.2.2.2 + 4).toNat < 2304
    omega
/-- the classes of a mask, of the first n -/
def clsA (m : Int) : Nat → List Int
  | 0 => []
  | n + 1 => if has m ((n : Int) - 4) then clsA m n ++ [(n : Int) - 4] else clsA m n
theorem clsA_mem {m c : Int} : ∀ n : Nat, n ≤ 9 → (c ∈ clsA m n ↔ has m c ∧ c < (n : Int) - 4)
  | 0, _ => by
    refine ⟨fun h => (by cases h), fun h => ?_⟩
    have := h.1.1; omega
  | n + 1, h => by
    have ih := clsA_mem (m := m) (c := c) n (by omega)
    unfold clsA
    by_cases q : has m ((n : Int) - 4)
    · rw [if_pos q, List.mem_append, List.mem_singleton, ih]
      constructor
      · rintro (⟨a, b⟩ | rfl)
        · exact ⟨a, by omega⟩
        · exact ⟨q, by omega⟩
      · rintro ⟨a, b⟩
        by_cases e : c = (n : Int) - 4
        · exact .inr e
        · exact .inl ⟨a, by omega⟩
    · rw [if_neg q, ih]
      constructor
      · rintro ⟨a, b⟩; exact ⟨a, by omega⟩
      · rintro ⟨a, b⟩
        refine ⟨a, ?_⟩
        have : c ≠ (n : Int) - 4 := fun e => q (e ▸ a)
        omega
theorem clsA_has {m c : Int} : c ∈ clsA m 9 ↔ has m c := by
  rw [clsA_mem 9 (by omega)]
  exact ⟨fun h => h.1, fun h => ⟨h, by have := h.1; omega⟩⟩
theorem clsA_len (m : Int) : ∀ n : Nat, (clsA m n).length ≤ n
  | 0 => Nat.le_refl _
  | n + 1 => by
    have := clsA_len m n
    unfold clsA; split
    · rw [List.length_append, List.length_singleton]; omega
    · omega
theorem clsA_inI (m : Int) {n : Nat} (h : n ≤ 9) : InI (clsA m n) := fun c hc => by
  have := ((clsA_mem n h).1 hc).1.1; omega
def OutI (k : Int) (ns : List Int) (i : Nat) (L : List St4) : Prop := L.Nodup ∧ ∀ s, s ∈ L ↔ ∃ row, Row (ns.take i) row ∧ st k row = s
theorem row_rng' {ms row : List Int} (h : Row ms row) : ∀ c ∈ row, -4 ≤ c ∧ c ≤ 4 := fun c hc => by
  obtain ⟨j, hj, rfl⟩ := mem_getD hc
  exact has_rng (h.2 j (by rw [← h.1]; exact hj))
theorem OutI.rng {k : Int} {ns : List Int} {i : Nat} {L : List St4} (hi : i ≤ ns.length) (h : OutI k ns i L) : ∀ s ∈ L, StN (i : Int) s := fun s hs => by
  obtain ⟨row, hr, rfl⟩ := (h.2 s).1 hs
  obtain ⟨h1, h2⟩ := st_rng (k := k) (row_rng' hr)
  exact ⟨h1, by rw [h2, hr.1, take_len hi]⟩
theorem out_zero {k : Int} {ns : List Int} : OutI k ns 0 [z4] := by
  refine ⟨by simp, fun s => ?_⟩
  rw [List.mem_singleton, List.take_zero]
  constructor
  · rintro rfl; exact ⟨[], row_nil.2 rfl, rfl⟩
  · rintro ⟨row, hr, rfl⟩; rw [row_nil.1 hr]; rfl
theorem row_take {ns row : List Int} {i : Nat} (h : i < ns.length) : Row (ns.take (i + 1)) row ↔ ∃ r c, row = r ++ [c] ∧ Row (ns.take i) r ∧ has (ns.getD i 0) c := by
  constructor
  · rintro ⟨a, b⟩
    rw [take_len (by omega)] at a
    refine ⟨row.take i, row.getD i 0, ?_, ⟨by rw [List.length_take, take_len (by omega)]; omega, fun j hj => ?_⟩, ?_⟩
    · rw [← take_snoc (by omega), List.take_of_length_le (by omega)]
    · rw [take_len (by omega)] at hj
      have := b j (by rw [take_len (by omega)]; omega)
      rw [getD_take (by omega)] at this
      rw [getD_take hj, getD_take hj]; exact this
    · have := b i (by rw [take_len (by omega)]; omega)
      rw [getD_take (by omega)] at this; exact this
  · rintro ⟨r, c, rfl, ⟨a, b⟩, hc⟩
    rw [take_len (by omega)] at a
    refine ⟨by rw [take_len (by omega), List.length_append, a]; rfl, fun j hj => ?_⟩
    rw [take_len (by omega)] at hj
    rw [getD_take hj]
    by_cases q : j < i
    · have := b j (by rw [take_len (by omega)]; omega)
      rw [getD_take q] at this
      rw [getD_app_l (by omega)]; exact this
    · have : j = i := by omega
      subst this
      rw [getD_app_r (by omega)]; exact hc
def Mid (k m : Int) (L : List St4) (j : Nat) (s : St4) : Prop := ∃ q : Nat, q < j ∧ ∃ c, has m c ∧ nx k (L.getD q z4) c = s
def MidI (k m : Int) (L : List St4) (j : Nat) (M : List St4) : Prop := M.Nodup ∧ ∀ s, s ∈ M ↔ Mid k m L j s
theorem mid_zero {k m : Int} {L : List St4} : MidI k m L 0 [] := ⟨by simp, fun s => ⟨fun h => (by cases h), fun ⟨q, h, _⟩ => absurd h (Nat.not_lt_zero _)⟩⟩
theorem mid_out {k : Int} {ns : List Int} {i : Nat} {L M : List St4} (hi : i < ns.length) (h : OutI k ns i L) (hm : MidI k (ns.getD i 0) L L.length M) : OutI k ns (i + 1) M := by
  refine ⟨hm.1, fun s => ?_⟩
  rw [hm.2]
  constructor
  · rintro ⟨q, hq, c, hc, rfl⟩
    obtain ⟨r, hr, e⟩ := (h.2 _).1 (getD_memS hq)
    exact ⟨r ++ [c], (row_take hi).2 ⟨r, c, rfl, hr, hc⟩, by rw [st_snoc, e]⟩
  · rintro ⟨row, hr, rfl⟩
    obtain ⟨r, c, rfl, hr, hc⟩ := (row_take hi).1 hr
    obtain ⟨q, hq, e⟩ := mem_getDS ((h.2 _).2 ⟨r, hr, rfl⟩)
    exact ⟨q, hq, c, hc, by rw [st_snoc, e]⟩
theorem mid_rng {k m n : Int} {L : List St4} {j : Nat} (hj : j ≤ L.length) (hL : ∀ s ∈ L, StN n s) {s : St4} (h : Mid k m L j s) : StN (n + 1) s := by
  obtain ⟨q, hq, c, hc, rfl⟩ := h
  obtain ⟨h1, h2⟩ := hL _ (getD_memS (show q < L.length by omega))
  exact ⟨nx_rng h1 hc.1, by simp only [nx]; omega⟩
def Inn (k m : Int) (L : List St4) (j q : Nat) (s : St4) : Prop := Mid k m L j s ∨ ∃ r : Nat, r < q ∧ nx k (L.getD j z4) ((clsA m 9).getD r 0) = s
def InnI (k m : Int) (L : List St4) (j q : Nat) (M : List St4) : Prop := M.Nodup ∧ ∀ s, s ∈ M ↔ Inn k m L j q s
theorem inn_zero {k m : Int} {L M : List St4} {j : Nat} (h : MidI k m L j M) : InnI k m L j 0 M := ⟨h.1, fun s => by rw [h.2]; exact ⟨.inl, fun q => q.resolve_right fun ⟨r, hr, _⟩ => absurd hr (Nat.not_lt_zero _)⟩⟩
theorem inn_mid {k m : Int} {L M : List St4} {j : Nat} (h : InnI k m L j (clsA m 9).length M) : MidI k m L (j + 1) M := by
  refine ⟨h.1, fun s => ?_⟩
  rw [h.2]
  constructor
  · rintro (⟨q, hq, c, hc, e⟩ | ⟨r, hr, e⟩)
    · exact ⟨q, by omega, c, hc, e⟩
    · exact ⟨j, by omega, _, clsA_has.1 (getD_mem hr), e⟩
  · rintro ⟨q, hq, c, hc, e⟩
    by_cases a : q < j
    · exact .inl ⟨q, a, c, hc, e⟩
    · have : q = j := by omega
      subst this
      obtain ⟨r, hr, e2⟩ := mem_getD (clsA_has.2 hc)
      exact .inr ⟨r, hr, by rw [e2]; exact e⟩
theorem inn_rng {k m n : Int} {L : List St4} {j q : Nat} (hj : j < L.length) (hq : q ≤ (clsA m 9).length) (hL : ∀ s ∈ L, StN n s) {s : St4} (h : Inn k m L j q s) : StN (n + 1) s := by
  rcases h with h | ⟨r, hr, rfl⟩
  · exact mid_rng (by omega) hL h
  · obtain ⟨h1, h2⟩ := hL _ (getD_memS hj)
    exact ⟨nx_rng h1 (clsA_has.1 (getD_mem (show r < _ by omega))).1, by simp only [nx]; omega⟩
theorem inn_step {k m : Int} {L : List St4} {j q : Nat} {s : St4} : Inn k m L j (q + 1) s ↔ Inn k m L j q s ∨ nx k (L.getD j z4) ((clsA m 9).getD q 0) = s := by
  unfold Inn
  constructor
  · rintro (h | ⟨r, hr, e⟩)
    · exact .inl (.inl h)
    · by_cases a : r < q
      · exact .inl (.inr ⟨r, a, e⟩)
      · have : r = q := by omega
        subst this; exact .inr e
  · rintro ((h | ⟨r, hr, e⟩) | e)
    · exact .inl h
    · exact .inr ⟨r, by omega, e⟩
    · exact .inr ⟨q, by omega, e⟩
theorem inn_found {k m : Int} {L M : List St4} {j q : Nat} (h : InnI k m L j q M) (hx : nx k (L.getD j z4) ((clsA m 9).getD q 0) ∈ M) : InnI k m L j (q + 1) M := by
  refine ⟨h.1, fun s => ?_⟩
  rw [inn_step, ← h.2]
  exact ⟨.inl, fun a => a.elim id fun e => e ▸ hx⟩
theorem inn_new {k m : Int} {L M : List St4} {j q : Nat} (h : InnI k m L j q M) (hx : nx k (L.getD j z4) ((clsA m 9).getD q 0) ∉ M) : InnI k m L j (q + 1) (M ++ [nx k (L.getD j z4) ((clsA m 9).getD q 0)]) := by
  refine ⟨?_, fun s => ?_⟩
  · rw [List.nodup_append]
    refine ⟨h.1, by simp, fun a ha b hb e => ?_⟩
    rw [List.mem_singleton] at hb
    exact hx (by rw [← hb, ← e]; exact ha)
  · rw [List.mem_append, List.mem_singleton, inn_step, h.2]
    exact ⟨fun a => a.elim .inl fun e => .inr e.symm, fun a => a.elim .inl fun e => .inr e.symm⟩
/-- how many hold, of the first -/
def cntH (k : Int) (L : List St4) (j : Nat) : Nat := ((L.take j).filter fun s => decide (hold k s)).length
theorem cntH_step {k : Int} {L : List St4} {j : Nat} (h : j < L.length) : cntH k L (j + 1) = cntH k L j + (if hold k (L.getD j z4) then 1 else 0) := by
  unfold cntH
  have e : L.take (j + 1) = L.take j ++ [L.getD j z4] := by rw [← List.take_append_getElem h]; simp [List.getD, h]
  rw [e, List.filter_append, List.length_append]
  generalize L.getD j z4 = s
  by_cases q : hold k s <;> simp [q]
theorem cntH_le {k : Int} {L : List St4} {j : Nat} : cntH k L j ≤ L.length := by
  unfold cntH
  have a := List.length_filter_le (fun s => decide (hold k s)) (L.take j)
  rw [List.length_take] at a
  omega
theorem cnt_fin {k : Int} {ns : List Int} {L : List St4} (hm : ∀ m ∈ ns, IsM m) (h : OutI k ns ns.length L) :
    (if (cntH k L L.length : Int) = 0 then (0 : Int) else if (cntH k L L.length : Int) < (L.length : Int) then 1 else 2) = val3 (∀ row, Row ns row → hold k (st k row)) (∃ row, Row ns row ∧ hold k (st k row)) := by
  unfold cntH
  rw [List.take_length]
  have hmem : ∀ s, s ∈ L ↔ ∃ row, Row ns row ∧ st k row = s := fun s => by rw [h.2, List.take_length]
  have hA : (∀ row, Row ns row → hold k (st k row)) ↔ ∀ s ∈ L, hold k s := ⟨fun a s hs => by obtain ⟨row, hr, rfl⟩ := (hmem s).1 hs; exact a row hr, fun a row hr => a _ ((hmem _).2 ⟨row, hr, rfl⟩)⟩
  have hX : (∃ row, Row ns row ∧ hold k (st k row)) ↔ ∃ s ∈ L, hold k s := ⟨fun ⟨row, hr, a⟩ => ⟨_, (hmem _).2 ⟨row, hr, rfl⟩, a⟩, fun ⟨s, hs, a⟩ => by obtain ⟨row, hr, rfl⟩ := (hmem s).1 hs; exact ⟨row, hr, a⟩⟩
  obtain ⟨row0, hr0⟩ := row_some hm
  have h0 := (hmem _).2 ⟨row0, hr0, rfl⟩
  rw [val3_congr hA hX]
  have c0 : (L.filter fun s => decide (hold k s)).length = 0 ↔ ¬ ∃ s ∈ L, hold k s := by
    rw [List.length_eq_zero_iff, List.filter_eq_nil_iff]
    exact ⟨fun a ⟨s, hs, b⟩ => a s hs (decide_eq_true b), fun a s hs b => a ⟨s, hs, of_decide_eq_true b⟩⟩
  have cl := List.length_filter_le (fun s => decide (hold k s)) L
  have c1 : (L.filter fun s => decide (hold k s)).length = L.length ↔ ∀ s ∈ L, hold k s := by
    rw [List.length_filter_eq_length_iff]
    exact ⟨fun a s hs => of_decide_eq_true (a s hs), fun a s hs => decide_eq_true (a s hs)⟩
  unfold val3
  by_cases a : ∀ s ∈ L, hold k s
  · have b : ∃ s ∈ L, hold k s := ⟨_, h0, a _ h0⟩
    have e0 : (L.filter fun s => decide (hold k s)).length ≠ 0 := fun e => c0.1 e b
    have e1 := c1.2 a
    rw [if_neg (by omega), if_neg (by omega), if_pos a]
  · have e1 : (L.filter fun s => decide (hold k s)).length ≠ L.length := fun e => a (c1.1 e)
    by_cases b : ∃ s ∈ L, hold k s
    · have e0 : (L.filter fun s => decide (hold k s)).length ≠ 0 := fun e => c0.1 e b
      rw [if_neg (by omega), if_pos (by omega), if_neg a, if_pos b]
    · have e0 := c0.2 b
      rw [if_pos (by omega), if_neg a, if_neg b]
end Go.Proofs.YtmnpeneplobpdaaDoor.X
