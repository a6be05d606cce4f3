/-
  The symbolic executor: operations that only look, or reckon, are told right (shifts, parts, places, maps).
-/
import Derived.Test.YtmnpeneplobpdaaDoorSxEval2
namespace Go.SX
open Go
set_option linter.unusedVariables false
set_option linter.unusedSimpArgs false

section
variable {P : Program} {w : World} {ρ : Env} {h : Hid} {S : St}

theorem At.den_z {ρ : Env} {n : Int} : At.den ρ (.z n) = n := rfl
theorem two_pow (n : Nat) : ((2 : Int) ^ n) = ((pow2 n : Nat) : Int) := by rw [pow2_eq]; push_cast; rfl
theorem pow2_pos (n : Nat) : 0 < ((pow2 n : Nat) : Int) := by rw [pow2_eq]; exact_mod_cast Nat.two_pow_pos n

theorem binShift_sound (F : FOK S ρ) (op : BinOp) (hop : op = .shl ∨ op = .shr) (T : TypeId) (k k' : IntKind) (x y : At) :
    VOK P w ρ h ((binOp op T (.int k (x.den ρ)) (.int k' (y.den ρ))).run P w) (binShift S op k x y) := by
  unfold binShift
  split
  · rename_i c d hy
    have h2 := St.rng_sound F hy
    split
    · rename_i hc; rw [ile_iff] at hc
      have hnn : ¬ y.den ρ < 0 := by omega
      rcases hop with rfl | rfl
      · simp only [binOp, Op.shift, hnn, if_false, pure, Sem.run]
        split
        · rename_i n hn
          simp only [St.lit_sound F hn, two_pow]
          split
          · rename_i a ha; simp only [St.lit_sound F ha]; simp only [VOK, SV.den, At.den_z]
          · split
            · rename_i a b hx
              have h1 := St.rng_sound F hx
              have hp := pow2_pos (min n.toNat k.bits)
              have g1 := Int.mul_le_mul_of_nonneg_right h1.1 (Int.le_of_lt hp)
              have g2 := Int.mul_le_mul_of_nonneg_right h1.2 (Int.le_of_lt hp)
              split
              · rename_i hw
                have hid := within_id (x := x.den ρ * (pow2 (min n.toNat k.bits) : Nat)) hw g1 g2
                simp only [VOK, IE.den, At.den_z, hid, true_and]
                intro lo hi e; injection e with e; injection e with e1 e2; subst e1; subst e2; exact ⟨g1, g2⟩
              · simp only [VOK, IE.den, At.den_z, true_and]; exact kiv_rng
            · simp only [VOK, IE.den, At.den_z, true_and]; exact kiv_rng
        · simp only [VOK, IE.den, true_and]; exact kiv_rng
      · simp only [binOp, Op.shift, hnn, if_false, pure, Sem.run]
        split
        · rename_i n hn
          simp only [St.lit_sound F hn, two_pow]
          have hp := pow2_pos (min n.toNat k.bits)
          rw [Int.fdiv_eq_ediv_of_nonneg _ (Int.le_of_lt hp)]
          split
          · rename_i a ha; simp only [St.lit_sound F ha]; simp only [VOK, SV.den, At.den_z]
          · split
            · rename_i a b hx
              have h1 := St.rng_sound F hx
              simp only [VOK, IE.den, At.den_z, true_and]
              intro lo hi e; injection e with e; injection e with e1 e2; subst e1; subst e2
              exact ⟨Int.ediv_le_ediv hp h1.1, Int.ediv_le_ediv hp h1.2⟩
            · simp only [VOK, IE.den, At.den_z, true_and]; intro lo hi e; cases e
        · simp only [VOK, IE.den, true_and]; intro lo hi e; cases e
    · trivial
  · trivial

theorem eqCells_sound : ∀ {xs ys : List SV} {e : BE}, eqCells xs ys = some e → allEq (denL ρ h xs) (denL ρ h ys) = some (e.den ρ)
  | [], [], e, he => by simp only [eqCells, Option.some.injEq] at he; subst he; rfl
  | .int k a :: r, .int k' b :: s, e, he => by
    simp only [eqCells] at he
    split at he
    · rename_i hk; rw [keq_iff] at hk; subst hk
      split at he
      · rename_i e' he'
        injection he with he; subst he
        simp only [denL, SV.den, allEq, cellEq, if_true, eqCells_sound he', band_den, BE.den, Cmp.den]
      · cases he
    · cases he
  | .bool a :: r, .bool b :: s, e, he => by
    simp only [eqCells] at he
    split at he
    · rename_i e' he'
      injection he with he; subst he
      simp only [denL, SV.den, allEq, cellEq, eqCells_sound he', band_den, beqv_den]
    · cases he

theorem minS_sound (F : FOK S ρ) (k k' : IntKind) (x y : At) :
    VOK P w ρ h ((Builtin.min2 (.int k (x.den ρ)) (.int k' (y.den ρ))).run P w) (minS S k x y) := by
  unfold minS
  simp only [Builtin.min2, pure, Sem.run]
  cases hd : S.decide (.cmp .lt y x) with
  | some b =>
    have := St.decide_sound F hd
    cases b
    · simp only [BE.den, Cmp.den, decide_eq_false_iff_not] at this; simp only [VOK, SV.den, this, if_false]
    · simp only [BE.den, Cmp.den, decide_eq_true_eq] at this; simp only [VOK, SV.den, this, if_true]
  | none =>
    simp only [VOK, IE.den, BE.den, Cmp.den, decide_eq_true_eq, true_and]
    intro lo hi e
    split at e
    · rename_i a b c d hx hy
      have h1 := St.rng_sound F hx
      have h2 := St.rng_sound F hy
      injection e with e; injection e with e1 e2; subst e1; subst e2
      split
      · exact ⟨Int.le_trans imin_le_right h2.1, le_imin (by omega) (by omega)⟩
      · exact ⟨Int.le_trans imin_le_left h1.1, le_imin (by omega) (by omega)⟩
    · cases e
theorem maxS_sound (F : FOK S ρ) (k k' : IntKind) (x y : At) :
    VOK P w ρ h ((Builtin.max2 (.int k (x.den ρ)) (.int k' (y.den ρ))).run P w) (maxS S k x y) := by
  unfold maxS
  simp only [Builtin.max2, pure, Sem.run]
  cases hd : S.decide (.cmp .lt x y) with
  | some b =>
    have := St.decide_sound F hd
    cases b
    · simp only [BE.den, Cmp.den, decide_eq_false_iff_not] at this; simp [VOK, SV.den, this]
    · simp only [BE.den, Cmp.den, decide_eq_true_eq] at this; simp [VOK, SV.den, this]
  | none =>
    simp only [VOK, IE.den, BE.den, Cmp.den, decide_eq_true_eq, gt_iff_lt, true_and]
    intro lo hi e
    split at e
    · rename_i a b c d hx hy
      have h1 := St.rng_sound F hx
      have h2 := St.rng_sound F hy
      injection e with e; injection e with e1 e2; subst e1; subst e2
      split
      · exact ⟨imax_le (by omega) (by omega), Int.le_trans h2.2 le_imax_right⟩
      · exact ⟨imax_le (by omega) (by omega), Int.le_trans h1.2 le_imax_left⟩
    · cases e
theorem cells_sound {v : SV} {cs : List SV} (hv : v.cells = some cs) : (v.den ρ h).cells = (denL ρ h cs).toArray := by
  cases v <;> simp only [SV.cells, Option.some.injEq, reduceCtorEq] at hv <;> subst hv <;> rfl

theorem putAll_length : ∀ (vs l : List SV) (i : Nat), (putAll l i vs).length = l.length
  | [], _, _ => rfl
  | x :: r, l, i => by rw [putAll, putAll_length r, List.length_set]

theorem putAll_sound (off : Nat) : ∀ (vs l : List SV) (j : Nat),
    ((denL ρ h vs).zipIdx j).foldl (fun (cs : Array Value) (p : Value × Nat) => cs.setIfInBounds (off + p.2) p.1) (denL ρ h l).toArray = (denL ρ h (putAll l (off + j) vs)).toArray
  | [], l, j => rfl
  | x :: r, l, j => by
    simp only [denL, List.zipIdx_cons, List.foldl_cons, putAll]
    rw [List.setIfInBounds_toArray, ← denL_set, putAll_sound off r _ (j + 1)]
    rfl

theorem fillS_sound {place placeS : Nat → Option (Nat × Nat)} (hp : ∀ i, place i = placeS i) : ∀ {l : List (Nat × SV)} {z cs : List SV}, fillS placeS z l = some cs →
    Instr.fill place (denL ρ h z).toArray (l.map fun p => (p.1, p.2.den ρ h)) = some (denL ρ h cs).toArray
  | [], z, cs, hf => by simp only [fillS, Option.some.injEq] at hf; subst hf; rfl
  | (i, v) :: r, z, cs, hf => by
    simp only [fillS] at hf
    split at hf
    · cases hf
    · rename_i off size hpl
      split at hf
      · rename_i vs hvs
        split at hf
        · rename_i hc
          simp only [Bool.and_eq_true, nbeq_iff, nble_iff] at hc
          have ih := fillS_sound hp hf
          simp only [List.map_cons, Instr.fill, hp, hpl, cells_sound hvs]
          have h1 : ¬ ((denL ρ h vs).toArray.size ≠ size ∨ off + (denL ρ h vs).toArray.size > (denL ρ h z).toArray.size) := by
            simp only [List.size_toArray, denL_length]; omega
          rw [if_neg (by simpa using h1)]
          rw [← ih]
          congr 1
          have h2 := putAll_sound (ρ := ρ) (h := h) off vs z 0
          simp only [Nat.add_zero] at h2
          rw [← h2, ← Array.foldl_toList, Array.toList_zipIdx]
        · cases hf
      · cases hf

theorem lookIn_sound (F : FOK S ρ) {kk k0 : IntKind} {a : At} : ∀ {es : List (SV × SV)} {E : List MapEntry} (n : Nat), E.map (fun e => (e.key, e.val)) = es.map (fun p => (p.1.den ρ h, p.2.den ρ h)) →
    match lookIn S kk a es with
    | .hit v => ∃ i, Instr.findNow (.int k0) (.int kk (a.den ρ)) E n = some (some (i, v.den ρ h))
    | .miss => Instr.findNow (.int k0) (.int kk (a.den ρ)) E n = some none
    | _ => True
  | [], E, n, hE => by
    cases E with
    | nil => rfl
    | cons e r => simp at hE
  | (.int k x, v) :: rest, E, n, hE => by
    cases E with
    | nil => simp at hE
    | cons e r =>
      simp only [List.map_cons, List.cons.injEq, Prod.mk.injEq] at hE
      obtain ⟨⟨h1, h2⟩, h3⟩ := hE
      simp only [lookIn]
      by_cases hk : keq k kk = true
      · rw [if_pos hk]
        rw [keq_iff] at hk
        subst hk
        cases hd : S.decide (.cmp .eq a x) with
        | none => trivial
        | some b =>
          have hh := St.decide_sound F hd
          cases b
          · simp only [BE.den, Cmp.den, decide_eq_false_iff_not] at hh
            have ih := lookIn_sound F (kk := k) (k0 := k0) (a := a) (n + 1) h3
            have hb : (a.den ρ == x.den ρ) = false := by simpa using hh
            simp only [Instr.findNow, h1, SV.den, Instr.sameNow, if_true, hb]
            exact ih
          · simp only [BE.den, Cmp.den, decide_eq_true_eq] at hh
            refine ⟨n, ?_⟩
            have hb : (a.den ρ == x.den ρ) = true := by simpa using hh
            simp only [Instr.findNow, h1, SV.den, Instr.sameNow, if_true, hb, h2]
      · rw [if_neg hk]; trivial
  | (.bool _, _) :: _, E, n, hE | (.str _, _) :: _, E, n, hE | (.ptr _ _, _) :: _, E, n, hE | (.gptr _, _) :: _, E, n, hE | (.nilp, _) :: _, E, n, hE | (.row _ _ _ _, _) :: _, E, n, hE | (.nilRow, _) :: _, E, n, hE
  | (.map _, _) :: _, E, n, hE | (.nilMap, _) :: _, E, n, hE | (.func _ _ _, _) :: _, E, n, hE | (.nilFunc, _) :: _, E, n, hE | (.nilIface, _) :: _, E, n, hE | (.iface _ _, _) :: _, E, n, hE | (.agg _, _) :: _, E, n, hE
  | (.tup _, _) :: _, E, n, hE | (.junk _, _) :: _, E, n, hE | (.lst _, _) :: _, E, n, hE | (.lptr _ _, _) :: _, E, n, hE | (.sptr _ _ _ _, _) :: _, E, n, hE | (.gd _ _, _) :: _, E, n, hE => trivial
theorem bite_den {ρ : Env} {e x y : BE} : (bite e x y).den ρ = if e.den ρ then x.den ρ else y.den ρ := by
  cases he : e.den ρ <;> cases x <;> cases y <;> simp [bite, BE.den, he]


theorem hull2_sound {S : St} {ρ : Env} (F : FOK S ρ) {x y : At} {lo hi : Int} (hh : hull2 (S.rng x) (S.rng y) = some (lo, hi)) : (lo ≤ x.den ρ ∧ x.den ρ ≤ hi) ∧ (lo ≤ y.den ρ ∧ y.den ρ ≤ hi) := by
  unfold hull2 at hh
  split at hh
  · rename_i a b c d h1 h2
    injection hh with hh; injection hh with e1 e2
    have g1 := St.rng_sound F (a := x) (lo := a) (hi := b) h1
    have g2 := St.rng_sound F (a := y) (lo := c) (hi := d) h2
    subst e1; subst e2
    simp only [imin, imax]
    have i1 := @ile_iff a c
    have i2 := @ile_iff b d
    split <;> split <;> simp_all <;> omega
  · cases hh

end
end Go.SX
