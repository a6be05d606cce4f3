/-
  Rows moved, and turned: what is told of their base, as numbers.
-/
import Derived.Test.YtjbokdekofiihaaSxBsFold
namespace Go.Proofs.Ytjbokdekofiihaa.X
open Go Go.SX
set_option linter.unusedVariables false
set_option linter.unusedSimpArgs false
theorem minS_unique {l : List Int} {m : Int} (h : m ∈ l) (h2 : ∀ y ∈ l, m ≤ y) : minS l = m := by
  have h1 := minS_le h
  have h3 := h2 _ (minS_mem (l := l) (fun e => by rw [e] at h; cases h))
  omega
theorem maxS_unique {l : List Int} {m : Int} (h : m ∈ l) (h2 : ∀ y ∈ l, y ≤ m) : maxS l = m := by
  have h1 := maxS_ge h
  have h3 := h2 _ (maxS_mem (l := l) (fun e => by rw [e] at h; cases h))
  omega
theorem minS_addc (c : Int) {l : List Int} (h : l ≠ []) : minS (l.map (· + c)) = minS l + c := by
  refine minS_unique (List.mem_map.2 ⟨_, minS_mem h, rfl⟩) fun y hy => ?_
  obtain ⟨x, hx, rfl⟩ := List.mem_map.1 hy
  have := minS_le hx
  show minS l + c ≤ x + c
  omega
theorem maxS_addc (c : Int) {l : List Int} (h : l ≠ []) : maxS (l.map (· + c)) = maxS l + c := by
  refine maxS_unique (List.mem_map.2 ⟨_, maxS_mem h, rfl⟩) fun y hy => ?_
  obtain ⟨x, hx, rfl⟩ := List.mem_map.1 hy
  have := maxS_ge hx
  show x + c ≤ maxS l + c
  omega
theorem minS_rev {l : List Int} (h : l ≠ []) : minS l.reverse = minS l :=
  minS_unique (List.mem_reverse.2 (minS_mem h)) fun y hy => minS_le (List.mem_reverse.1 hy)
theorem maxS_rev {l : List Int} (h : l ≠ []) : maxS l.reverse = maxS l :=
  maxS_unique (List.mem_reverse.2 (maxS_mem h)) fun y hy => maxS_ge (List.mem_reverse.1 hy)
theorem sumL_addc (c : Int) : ∀ l : List Int, sumL (l.map (· + c)) = sumL l + (l.length : Int) * c
  | [] => by simp [sumL]
  | x :: r => by
    simp only [List.map_cons, sumL, sumL_addc c r, List.length_cons]
    have e : ((r.length + 1 : Nat) : Int) * c = (r.length : Int) * c + c := by rw [Int.natCast_add, Int.add_mul]; simp
    rw [e]; omega
theorem sumL_rev : ∀ l : List Int, sumL l.reverse = sumL l
  | [] => rfl
  | x :: r => by
    rw [List.reverse_cons, sumL_append, sumL_rev r]
    simp only [sumL]; omega
theorem ne_of_len {r : List Int} (h : 1 ≤ (r.length : Int)) : r ≠ [] := fun e => by rw [e] at h; simp at h
theorem lastS_addc (c : Int) {r : List Int} (h : 1 ≤ (r.length : Int)) : lastS (r.map (· + c)) = lastS r + c := by
  unfold lastS
  have hl : r.length - 1 < r.length := by omega
  simp [List.getD, hl]
theorem headS_addc (c : Int) {r : List Int} (h : 1 ≤ (r.length : Int)) : (r.map (· + c)).getD 0 0 = r.getD 0 0 + c := by
  have hl : 0 < r.length := by omega
  simp [List.getD, hl]
theorem apart_addc (c x a : Int) : apart (x + c) (a + c) = apart x a := by unfold apart; (repeat' split) <;> omega
theorem apart_comm (x a : Int) : apart x a = apart a x := by unfold apart; (repeat' split) <;> omega
theorem getD_map {L : List (List Int)} {f : List Int → List Int} {n : Nat} (h : n < L.length) : (L.map f).getD n [] = f (L.getD n []) := by
  simp [List.getD, h]
/-- rows whose samples are moved -/
theorem moved_R {z c : Int} {L : List (List Int)} (hz : 1 ≤ z) (hL : ∀ r ∈ L, (r.length : Int) = z) : ∀ n, n ≤ L.length → bRn z (L.map (List.map (· + c))) n = bRn z L n ∧ (n ≠ 0 → bLn (L.map (List.map (· + c))) n = bLn L n + c)
  | 0, _ => ⟨rfl, fun h => absurd rfl h⟩
  | n + 1, hn => by
    obtain ⟨i1, i2⟩ := moved_R hz hL n (by omega)
    have hm := getD_row (show n < L.length by omega)
    have hlen := hL _ hm
    have hr := getD_map (f := List.map (· + c)) (show n < L.length by omega)
    refine ⟨?_, fun _ => ?_⟩
    · show bRn z _ n + tkR z n (bLn _ n) ((L.map (List.map (· + c))).getD n []) = bRn z L n + tkR z n (bLn L n) (L.getD n [])
      rw [i1, hr]
      congr 1
      unfold tkR
      by_cases h1 : z = 1
      · rw [if_pos h1, if_pos h1]
        by_cases h0 : (n : Int) = 0
        · rw [if_pos h0, if_pos h0]
        · rw [if_neg h0, if_neg h0, i2 (by omega), headS_addc c (by omega), apart_addc]
      · rw [if_neg h1, if_neg h1, maxS_addc c (ne_of_len (by omega)), minS_addc c (ne_of_len (by omega))]
        omega
    · show lastS ((L.map (List.map (· + c))).getD n []) = lastS (L.getD n []) + c
      rw [hr, lastS_addc c (by omega)]
theorem moved_S {z c : Int} {L : List (List Int)} (hL : ∀ r ∈ L, (r.length : Int) = z) : ∀ n : Nat, n ≤ L.length → bSn (L.map (List.map (· + c))) n = bSn L n + (n : Int) * z * c
  | 0, _ => by simp [bSn]
  | n + 1, hn => by
    have ih := moved_S (c := c) hL n (by omega)
    have hlen := hL _ (getD_row (show n < L.length by omega))
    have hr := getD_map (f := List.map (· + c)) (show n < L.length by omega)
    show bSn _ n + sumL ((L.map (List.map (· + c))).getD n []) = bSn L n + sumL (L.getD n []) + ((n + 1 : Nat) : Int) * z * c
    rw [ih, hr, sumL_addc, hlen]
    have e : ((n + 1 : Nat) : Int) * z * c = (n : Int) * z * c + z * c := by rw [Int.natCast_add, Int.add_mul, Int.add_mul]; simp
    rw [e]; omega
/-! ### rows in the other order -/
theorem take_row {L : List (List Int)} {n : Nat} (h : n < L.length) : L.take (n + 1) = L.take n ++ [L.getD n []] := by
  have e : L.getD n [] = L[n] := by simp [List.getD, h]
  rw [e, List.take_append_getElem h]
theorem bSn_sum {L : List (List Int)} : ∀ n : Nat, n ≤ L.length → bSn L n = sumL ((L.take n).map sumL)
  | 0, _ => by simp [bSn, sumL]
  | n + 1, hn => by
    rw [take_row (by omega), List.map_append, sumL_append, ← bSn_sum n (by omega)]
    simp [bSn, sumL]
def wS (r : List Int) : Int := maxS r - minS r
theorem bRn_sum {z : Int} {L : List (List Int)} (hz : z ≠ 1) : ∀ n : Nat, n ≤ L.length → bRn z L n = sumL ((L.take n).map wS)
  | 0, _ => by simp [bRn, sumL]
  | n + 1, hn => by
    rw [take_row (by omega), List.map_append, sumL_append, ← bRn_sum hz n (by omega)]
    simp [bRn, sumL, tkR, wS, hz]
/-- how far it is along a row of numbers -/
def plL : List Int → Int
  | [] => 0
  | [_] => 0
  | x :: y :: r => apart y x + plL (y :: r)
theorem plL_snoc : ∀ (l : List Int) (a b : Int), plL (l ++ [a, b]) = plL (l ++ [a]) + apart b a
  | [], a, b => by simp [plL]
  | [x], a, b => by simp [plL]
  | x :: y :: r, a, b => by
    have := plL_snoc (y :: r) a b
    simp only [List.cons_append, plL] at this ⊢
    omega
theorem plL_rev : ∀ l : List Int, plL l.reverse = plL l
  | [] => rfl
  | [_] => rfl
  | x :: y :: r => by
    have ih := plL_rev (y :: r)
    rw [List.reverse_cons] at ih
    rw [List.reverse_cons, List.reverse_cons, List.append_assoc]
    show plL (r.reverse ++ [y, x]) = _
    rw [plL_snoc, ih, apart_comm x y]
    simp only [plL]; omega
theorem one_row {r : List Int} (h : (r.length : Int) = 1) : r.getD 0 0 = lastS r ∧ r.reverse = r ∧ sumL r = lastS r := by
  match r, h with
  | [x], _ => exact ⟨rfl, rfl, by simp [sumL, lastS]⟩
  | [], h => simp at h
  | _ :: _ :: _, h => simp at h; omega
theorem bRn_path {L : List (List Int)} (hL : ∀ r ∈ L, (r.length : Int) = 1) : ∀ n : Nat, n ≤ L.length → bRn 1 L n = plL ((L.take n).map lastS)
  | 0, _ => by simp [bRn, plL]
  | 1, hn => by
    rw [take_row (by omega)]
    simp [bRn, plL, tkR]
  | n + 2, hn => by
    have ih := bRn_path hL (n + 1) (by omega)
    have hlen := hL _ (getD_row (show n + 1 < L.length by omega))
    rw [take_row (show n + 1 < L.length by omega), List.map_append]
    rw [take_row (show n < L.length by omega), List.map_append, List.append_assoc] at *
    show bRn 1 L (n + 1) + tkR 1 ((n + 1 : Nat) : Int) (bLn L (n + 1)) (L.getD (n + 1) []) = plL ((L.take n).map lastS ++ [lastS (L.getD n []), lastS (L.getD (n + 1) [])])
    rw [plL_snoc, ih]
    congr 1
    unfold tkR
    rw [if_pos rfl, if_neg (by omega), (one_row hlen).1]
    rfl
/-- rows in the other order, each the other way round -/
def turnL (L : List (List Int)) : List (List Int) := (L.map List.reverse).reverse
theorem turn_S {L : List (List Int)} : bSn (turnL L) L.length = bSn L L.length := by
  have e : (turnL L).length = L.length := by simp [turnL]
  have h1 := bSn_sum (L := turnL L) (turnL L).length (Nat.le_refl _)
  have h2 := bSn_sum (L := L) L.length (Nat.le_refl _)
  rw [e] at h1
  rw [h1, h2, List.take_of_length_le (by omega), List.take_of_length_le (Nat.le_refl _)]
  unfold turnL
  rw [List.map_reverse, sumL_rev, List.map_map]
  congr 1
  exact List.map_congr_left fun r _ => sumL_rev r
theorem turn_R {z : Int} {L : List (List Int)} (hz : 1 ≤ z) (hL : ∀ r ∈ L, (r.length : Int) = z) : bRn z (turnL L) L.length = bRn z L L.length := by
  have e : (turnL L).length = L.length := by simp [turnL]
  by_cases h1 : z = 1
  · subst h1
    have hT : ∀ r ∈ turnL L, (r.length : Int) = 1 := fun r hr => by
      unfold turnL at hr
      rw [List.mem_reverse, List.mem_map] at hr
      obtain ⟨q, hq, rfl⟩ := hr
      rw [List.length_reverse]; exact hL q hq
    have a1 := bRn_path hT (turnL L).length (Nat.le_refl _)
    have a2 := bRn_path hL L.length (Nat.le_refl _)
    rw [e] at a1
    rw [a1, a2, List.take_of_length_le (by omega), List.take_of_length_le (Nat.le_refl _)]
    unfold turnL
    rw [List.map_reverse, plL_rev, List.map_map]
    congr 1
    exact List.map_congr_left fun r hr => by
      show lastS r.reverse = lastS r
      rw [(one_row (hL r hr)).2.1]
  · have a1 := bRn_sum (L := turnL L) h1 (turnL L).length (Nat.le_refl _)
    have a2 := bRn_sum (L := L) h1 L.length (Nat.le_refl _)
    rw [e] at a1
    rw [a1, a2, List.take_of_length_le (by omega), List.take_of_length_le (Nat.le_refl _)]
    unfold turnL
    rw [List.map_reverse, sumL_rev, List.map_map]
    congr 1
    refine List.map_congr_left fun r hr => ?_
    have hl := hL r hr
    show maxS r.reverse - minS r.reverse = maxS r - minS r
    rw [maxS_rev (ne_of_len (by omega)), minS_rev (ne_of_len (by omega))]
end Go.Proofs.Ytjbokdekofiihaa.X
