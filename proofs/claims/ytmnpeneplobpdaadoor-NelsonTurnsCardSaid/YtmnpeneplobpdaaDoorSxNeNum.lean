/-
  Sets of classes as masks; points of masks, flat.
-/
import Derived.Test.YtmnpeneplobpdaaDoorSxTz
namespace Go.Proofs.YtmnpeneplobpdaaDoor.X
open Go Go.SX Go.RowKit
set_option linter.unusedVariables false
set_option linter.unusedSimpArgs false
theorem w64 {x : Int} (h0 : -9223372036854775808 ≤ x) (h1 : x ≤ 9223372036854775807) : IntKind.i64.wrap x = x := wrap_id h0 h1
def p2 (n : Int) : Int := ((2 ^ n.toNat : Nat) : Int)
theorem p2_pos (n : Int) : 0 < p2 n := Int.natCast_pos.mpr (Nat.two_pow_pos _)
theorem p2_le {n m : Int} (hn : 0 ≤ n) (h : n ≤ m) : p2 n ≤ p2 m := by
  unfold p2
  exact Int.ofNat_le.2 (Nat.pow_le_pow_right (by omega) (by omega))
theorem p2_deni {n : Int} (h0 : 0 ≤ n) (h : n ≤ 64) : (2 : Int) ^ (min n.toNat (IntKind.i64).bits) = p2 n := by
  have : min n.toNat (IntKind.i64).bits = n.toNat := by simp only [IntKind.bits]; omega
  rw [this]; unfold p2; simp
theorem p2_9 {n : Int} (h0 : 0 ≤ n) (h : n ≤ 9) : 1 ≤ p2 n ∧ p2 n ≤ 512 := ⟨p2_pos n, p2_le (m := 9) h0 h⟩
/-- a mask has a class -/
def has (m c : Int) : Prop := (-4 ≤ c ∧ c ≤ 4) ∧ m.toNat.testBit (c + 4).toNat = true
instance (m c : Int) : Decidable (has m c) := by unfold has; infer_instance
/-- a mask -/
def IsM (m : Int) : Prop := 1 ≤ m ∧ m ≤ 511
/-- any mask, the empty one too -/
def IsM0 (m : Int) : Prop := 0 ≤ m ∧ m ≤ 511
theorem IsM.m0 {m : Int} (h : IsM m) : IsM0 m := ⟨by have := h.1; omega, h.2⟩
theorem and_nat {x y : Int} (hx : IsM0 x) (hy : IsM0 y) : bitDen .and .i64 x y = ((x.toNat &&& y.toNat : Nat) : Int) := by
  obtain ⟨a, rfl⟩ := Int.eq_ofNat_of_zero_le hx.1
  obtain ⟨b, rfl⟩ := Int.eq_ofNat_of_zero_le hy.1
  have ha := hx.2; have hb := hy.2
  have h1 : (BitVec.ofInt 64 (a : Int) &&& BitVec.ofInt 64 (b : Int)).toNat = a &&& b := by
    have e1 : BitVec.ofInt 64 (a : Int) = BitVec.ofNat 64 a := by simp
    have e2 : BitVec.ofInt 64 (b : Int) = BitVec.ofNat 64 b := by simp
    rw [e1, e2, BitVec.toNat_and, BitVec.toNat_ofNat, BitVec.toNat_ofNat, Nat.mod_eq_of_lt (by omega), Nat.mod_eq_of_lt (by omega)]
  have h2 : bitDen .and .i64 (a : Int) (b : Int) = IntKind.i64.wrap ((a &&& b : Nat) : Int) := by
    show IntKind.i64.wrap _ = _
    congr 1
    exact_mod_cast h1
  have := Nat.and_le_left (n := a) (m := b)
  rw [h2, w64 (by omega) (by omega)]
  simp
theorem or_nat {x y : Int} (hx : IsM0 x) (hy : IsM0 y) : bitDen .or .i64 x y = ((x.toNat ||| y.toNat : Nat) : Int) := by
  obtain ⟨a, rfl⟩ := Int.eq_ofNat_of_zero_le hx.1
  obtain ⟨b, rfl⟩ := Int.eq_ofNat_of_zero_le hy.1
  have ha := hx.2; have hb := hy.2
  have h1 : (BitVec.ofInt 64 (a : Int) ||| BitVec.ofInt 64 (b : Int)).toNat = a ||| b := by
    have e1 : BitVec.ofInt 64 (a : Int) = BitVec.ofNat 64 a := by simp
    have e2 : BitVec.ofInt 64 (b : Int) = BitVec.ofNat 64 b := by simp
    rw [e1, e2, BitVec.toNat_or, BitVec.toNat_ofNat, BitVec.toNat_ofNat, Nat.mod_eq_of_lt (by omega), Nat.mod_eq_of_lt (by omega)]
  have h2 : bitDen .or .i64 (a : Int) (b : Int) = IntKind.i64.wrap ((a ||| b : Nat) : Int) := by
    show IntKind.i64.wrap _ = _
    congr 1
    exact_mod_cast h1
  have : a ||| b < 2 ^ 9 := Nat.or_lt_two_pow (by omega) (by omega)
  rw [h2, w64 (by omega) (by omega)]
  simp
theorem andnot_nat {x y : Int} (hx : IsM0 x) (hy : IsM0 y) : bitDen .andNot .i64 x y = ((x.toNat &&& (2 ^ 64 - (y.toNat + 1)) : Nat) : Int) := by
  obtain ⟨a, rfl⟩ := Int.eq_ofNat_of_zero_le hx.1
  obtain ⟨b, rfl⟩ := Int.eq_ofNat_of_zero_le hy.1
  have ha := hx.2; have hb := hy.2
  have h1 : (BitVec.ofInt 64 (a : Int) &&& ~~~ BitVec.ofInt 64 (b : Int)).toNat = a &&& (2 ^ 64 - (b + 1)) := by
    have e1 : BitVec.ofInt 64 (a : Int) = BitVec.ofNat 64 a := by simp
    have e2 : BitVec.ofInt 64 (b : Int) = BitVec.ofNat 64 b := by simp
    rw [e1, e2, BitVec.toNat_and, BitVec.toNat_not, BitVec.toNat_ofNat, BitVec.toNat_ofNat, Nat.mod_eq_of_lt (by omega), Nat.mod_eq_of_lt (by omega)]
    congr 1
    omega
  have h2 : bitDen .andNot .i64 (a : Int) (b : Int) = IntKind.i64.wrap ((a &&& (2 ^ 64 - (b + 1)) : Nat) : Int) := by
    show IntKind.i64.wrap _ = _
    congr 1
    exact_mod_cast h1
  have := Nat.and_le_left (n := a) (m := 2 ^ 64 - (b + 1))
  rw [h2, w64 (by omega) (by omega)]
  simp
theorem bit_lt {n : Nat} (h : n < 512) {i : Nat} (hi : n.testBit i = true) : i < 9 := by
  by_cases k : i < 9
  · exact k
  · have : n < 2 ^ i := Nat.lt_of_lt_of_le h (Nat.pow_le_pow_right (n := 2) (by omega) (show 9 ≤ i by omega))
    rw [Nat.testBit_lt_two_pow this] at hi
    cases hi
theorem has_ne {m : Int} (hm : IsM0 m) : m ≠ 0 ↔ ∃ c, has m c := by
  obtain ⟨n, rfl⟩ := Int.eq_ofNat_of_zero_le hm.1
  have hn := hm.2
  constructor
  · intro h
    obtain ⟨i, hi⟩ := Nat.exists_testBit_of_ne_zero (x := n) (by omega)
    have := bit_lt (by omega) hi
    refine ⟨(i : Int) - 4, ⟨by omega, by omega⟩, ?_⟩
    rw [show ((i : Int) - 4 + 4).toNat = i by omega]
    simpa using hi
  · rintro ⟨c, _, h⟩ h0
    have : n = 0 := by omega
    subst this
    simp at h
theorem and_rng {x y : Int} (hx : IsM0 x) (hy : IsM0 y) : IsM0 (bitDen .and .i64 x y) := by
  rw [and_nat hx hy]
  have h1 := hx.1; have h2 := hx.2
  have := Nat.and_le_left (n := x.toNat) (m := y.toNat)
  exact ⟨by omega, by omega⟩
theorem or_rng {x y : Int} (hx : IsM0 x) (hy : IsM0 y) : IsM0 (bitDen .or .i64 x y) := by
  rw [or_nat hx hy]
  have h1 := hx.1; have h2 := hx.2; have h3 := hy.1; have h4 := hy.2
  have : x.toNat ||| y.toNat < 2 ^ 9 := Nat.or_lt_two_pow (by omega) (by omega)
  exact ⟨by omega, by omega⟩
theorem andnot_rng {x y : Int} (hx : IsM0 x) (hy : IsM0 y) : IsM0 (bitDen .andNot .i64 x y) := by
  rw [andnot_nat hx hy]
  have h1 := hx.1; have h2 := hx.2
  have := Nat.and_le_left (n := x.toNat) (m := 2 ^ 64 - (y.toNat + 1))
  exact ⟨by omega, by omega⟩
theorem has_and {x y c : Int} (hx : IsM0 x) (hy : IsM0 y) : has (bitDen .and .i64 x y) c ↔ has x c ∧ has y c := by
  rw [and_nat hx hy]
  unfold has
  rw [Int.toNat_natCast, Nat.testBit_and, Bool.and_eq_true]
  exact ⟨fun h => ⟨⟨h.1, h.2.1⟩, h.1, h.2.2⟩, fun h => ⟨h.1.1, h.1.2, h.2.2⟩⟩
theorem has_or {x y c : Int} (hx : IsM0 x) (hy : IsM0 y) : has (bitDen .or .i64 x y) c ↔ has x c ∨ has y c := by
  rw [or_nat hx hy]
  unfold has
  rw [Int.toNat_natCast, Nat.testBit_or, Bool.or_eq_true]
  constructor
  · rintro ⟨h, h1 | h1⟩
    · exact .inl ⟨h, h1⟩
    · exact .inr ⟨h, h1⟩
  · rintro (⟨h, h1⟩ | ⟨h, h1⟩)
    · exact ⟨h, .inl h1⟩
    · exact ⟨h, .inr h1⟩
theorem has_andnot {x y c : Int} (hx : IsM0 x) (hy : IsM0 y) : has (bitDen .andNot .i64 x y) c ↔ has x c ∧ ¬ has y c := by
  rw [andnot_nat hx hy]
  have h2 := hy.1; have h3 := hy.2
  unfold has
  rw [Int.toNat_natCast, Nat.testBit_and, Nat.testBit_two_pow_sub_succ (by omega), Bool.and_eq_true, Bool.and_eq_true, Bool.not_eq_true', decide_eq_true_eq]
  constructor
  · rintro ⟨h, h1, h4, h5⟩
    exact ⟨⟨h, h1⟩, fun q => by rw [q.2] at h5; cases h5⟩
  · rintro ⟨⟨h, h1⟩, h4⟩
    refine ⟨h, h1, by omega, ?_⟩
    cases hb : y.toNat.testBit (c + 4).toNat
    · rfl
    · exact absurd ⟨h, hb⟩ h4
theorem andnot_zero {x y : Int} (hx : IsM0 x) (hy : IsM0 y) : bitDen .andNot .i64 x y = 0 ↔ ∀ c, has x c → has y c := by
  have h := has_ne (andnot_rng hx hy)
  constructor
  · intro h0 c hc
    by_cases hy' : has y c
    · exact hy'
    · exact absurd h0 (h.2 ⟨c, (has_andnot hx hy).2 ⟨hc, hy'⟩⟩)
  · intro h1
    by_cases h0 : bitDen .andNot .i64 x y = 0
    · exact h0
    · obtain ⟨c, hc⟩ := h.1 h0
      rw [has_andnot hx hy] at hc
      exact absurd (h1 c hc.1) hc.2
theorem and_zero {x y : Int} (hx : IsM0 x) (hy : IsM0 y) : bitDen .and .i64 x y ≠ 0 ↔ ∃ c, has x c ∧ has y c := by
  rw [has_ne (and_rng hx hy)]
  exact ⟨fun ⟨c, h⟩ => ⟨c, (has_and hx hy).1 h⟩, fun ⟨c, h⟩ => ⟨c, (has_and hx hy).2 h⟩⟩
/-- all classes from one on; all classes up to one -/
def aboveZ (n : Int) : Int := 512 - p2 (n + 4)
def belowZ (n : Int) : Int := p2 (n + 5) - 1
theorem above_all : ∀ k : Fin 10, ∀ i : Fin 9, (512 - 2 ^ k.val).testBit i.val = decide (k.val ≤ i.val) := by decide +kernel
theorem above_rng {n : Int} (h0 : -4 ≤ n) (h1 : n ≤ 5) : IsM0 (aboveZ n) := by
  have := p2_9 (n := n + 4) (by omega) (by omega)
  unfold aboveZ; exact ⟨by omega, by omega⟩
theorem below_rng {n : Int} (h0 : -5 ≤ n) (h1 : n ≤ 4) : IsM0 (belowZ n) := by
  have := p2_9 (n := n + 5) (by omega) (by omega)
  unfold belowZ; exact ⟨by omega, by omega⟩
theorem has_above {n c : Int} (h0 : -4 ≤ n) (h1 : n ≤ 5) (hc : -4 ≤ c ∧ c ≤ 4) : has (aboveZ n) c ↔ n ≤ c := by
  have := above_all ⟨(n + 4).toNat, by omega⟩ ⟨(c + 4).toNat, by omega⟩
  have e : (aboveZ n).toNat = 512 - 2 ^ (n + 4).toNat := by unfold aboveZ p2; omega
  unfold has
  rw [e, this, decide_eq_true_eq]
  show (_ ∧ (n + 4).toNat ≤ (c + 4).toNat) ↔ _
  omega
theorem has_below {n c : Int} (h0 : -5 ≤ n) (h1 : n ≤ 4) (hc : -4 ≤ c ∧ c ≤ 4) : has (belowZ n) c ↔ c ≤ n := by
  have e : (belowZ n).toNat = 2 ^ (n + 5).toNat - 1 := by unfold belowZ p2; omega
  unfold has
  rw [e, Nat.testBit_two_pow_sub_one, decide_eq_true_eq]
  omega
/-- the lowest and the highest class of a mask -/
def loZ (m : Int) : Int := tzN m - 4
def hiZ (m : Int) : Int := lenN m - 5
theorem ends_all : ∀ i : Fin 512, i.val ≠ 0 → (∀ c : Fin 9, i.val.testBit c.val = true → Lib.ctz 64 i.val ≤ c.val ∧ c.val + 1 ≤ Lib.bitLen i.val) ∧ i.val.testBit (Lib.ctz 64 i.val) = true ∧ i.val.testBit (Lib.bitLen i.val - 1) = true := by decide +kernel
theorem ends_of {m : Int} (h : IsM m) : (-4 ≤ loZ m ∧ loZ m ≤ hiZ m ∧ hiZ m ≤ 4) ∧ has m (loZ m) ∧ has m (hiZ m) ∧ ∀ c, has m c → loZ m ≤ c ∧ c ≤ hiZ m := by
  have hr := tz_rng h.1 h.2
  obtain ⟨n, rfl⟩ := Int.eq_ofNat_of_zero_le h.m0.1
  have h1 := h.1; have h2 := h.2
  obtain ⟨e1, e2, e3⟩ := ends_all ⟨n, by omega⟩ (by show n ≠ 0; omega)
  unfold loZ hiZ
  refine ⟨by omega, ⟨by omega, ?_⟩, ⟨by omega, ?_⟩, ?_⟩
  · have : (tzN (n : Int) - 4 + 4).toNat = Lib.ctz 64 n := by unfold tzN; rw [Int.toNat_natCast]; omega
    rw [this]; exact e2
  · have : (lenN (n : Int) - 5 + 4).toNat = Lib.bitLen n - 1 := by unfold lenN; rw [Int.toNat_natCast]; omega
    rw [this]; exact e3
  · rintro c ⟨hc, hb⟩
    have this : Lib.ctz 64 n ≤ (c + 4).toNat ∧ (c + 4).toNat + 1 ≤ Lib.bitLen n := e1 ⟨(c + 4).toNat, by omega⟩ hb
    unfold tzN lenN
    rw [Int.toNat_natCast]
    omega
/-- points of masks -/
def ptOf : List Int → List Int
  | [] => []
  | m :: r => m :: loZ m :: hiZ m :: ptOf r
def mks : List Int → List Int
  | m :: _ :: _ :: r => m :: mks r
  | _ => []
theorem mks_pt : ∀ ms : List Int, mks (ptOf ms) = ms
  | [] => rfl
  | m :: r => by unfold ptOf mks; rw [mks_pt r]
theorem pt_len : ∀ ms : List Int, (ptOf ms).length = 3 * ms.length
  | [] => rfl
  | m :: r => by unfold ptOf; simp only [List.length_cons]; rw [pt_len r]; omega
theorem pt_cnt (ms : List Int) : (((ptOf ms).length / 3 : Nat) : Int) = (ms.length : Int) := by rw [pt_len]; omega
theorem pt_get : ∀ (ms : List Int) (i : Nat), i < ms.length → (ptOf ms).getD (i * 3 + 0) 0 = ms.getD i 0 ∧ (ptOf ms).getD (i * 3 + 1) 0 = loZ (ms.getD i 0) ∧ (ptOf ms).getD (i * 3 + 2) 0 = hiZ (ms.getD i 0)
  | [], i, h => by cases h
  | m :: r, 0, h => ⟨rfl, rfl, rfl⟩
  | m :: r, i + 1, h => by
    have := pt_get r i (by simpa using h)
    unfold ptOf
    rw [show (i + 1) * 3 + 0 = (i * 3 + 0) + 1 + 1 + 1 by omega, show (i + 1) * 3 + 1 = (i * 3 + 1) + 1 + 1 + 1 by omega, show (i + 1) * 3 + 2 = (i * 3 + 2) + 1 + 1 + 1 by omega]
    simpa using this
theorem pt_drop : ∀ (ms : List Int) (n : Nat), (ptOf ms).drop (n * 3) = ptOf (ms.drop n)
  | ms, 0 => by simp
  | [], n + 1 => by simp [ptOf]
  | m :: r, n + 1 => by
    rw [List.drop_succ_cons, ← pt_drop r n, show (n + 1) * 3 = n * 3 + 1 + 1 + 1 by omega]
    rfl
theorem pt_take : ∀ (ms : List Int) (n : Nat), (ptOf ms).take (n * 3) = ptOf (ms.take n)
  | ms, 0 => by simp [ptOf]
  | [], n + 1 => by simp [ptOf]
  | m :: r, n + 1 => by
    rw [List.take_succ_cons, show (n + 1) * 3 = n * 3 + 1 + 1 + 1 by omega]
    show m :: loZ m :: hiZ m :: (ptOf r).take (n * 3) = m :: loZ m :: hiZ m :: ptOf (r.take n)
    rw [pt_take r n]
theorem pt_app : ∀ (ms : List Int) (m : Int), ptOf ms ++ [m, loZ m, hiZ m] = ptOf (ms ++ [m])
  | [], m => rfl
  | a :: r, m => by
    show a :: loZ a :: hiZ a :: (ptOf r ++ [m, loZ m, hiZ m]) = a :: loZ a :: hiZ a :: ptOf (r ++ [m])
    rw [pt_app r m]
/-- a row of points -/
def IsP (l : List Int) : Prop := ∃ ms : List Int, l = ptOf ms ∧ (∀ m ∈ ms, IsM m) ∧ ms.length ≤ 15
theorem isP_nil : IsP [] := ⟨[], rfl, fun m h => (by cases h), by simp⟩
theorem getD_mem {l : List Int} {i : Nat} (h : i < l.length) : l.getD i 0 ∈ l := by
  have : l.getD i 0 = l[i] := by simp [List.getD, h]
  rw [this]; exact List.getElem_mem h
theorem mem_getD {l : List Int} {m : Int} (h : m ∈ l) : ∃ i : Nat, i < l.length ∧ l.getD i 0 = m := by
  obtain ⟨i, hi, rfl⟩ := List.mem_iff_getElem.1 h
  exact ⟨i, hi, by simp [List.getD, hi]⟩
/-- of the first i -/
def UpTo (ms : List Int) (P : Int → Prop) (i : Int) : Prop := ∀ j : Nat, (j : Int) < i → P (ms.getD j 0)
theorem upTo_zero {ms : List Int} {P : Int → Prop} : UpTo ms P 0 := fun j hj => by omega
theorem upTo_step {ms : List Int} {P : Int → Prop} {i : Int} (h0 : 0 ≤ i) : UpTo ms P (i + 1) ↔ UpTo ms P i ∧ P (ms.getD i.toNat 0) := by
  constructor
  · intro h
    exact ⟨fun j hj => h j (by omega), h i.toNat (by omega)⟩
  · rintro ⟨h1, h2⟩ j hj
    by_cases k : (j : Int) < i
    · exact h1 j k
    · have : j = i.toNat := by omega
      subst this; exact h2
theorem upTo_all {ms : List Int} {P : Int → Prop} {i : Int} (h : i = (ms.length : Int)) : UpTo ms P i ↔ ∀ m ∈ ms, P m := by
  subst h
  constructor
  · intro h m hm
    obtain ⟨j, hj, rfl⟩ := mem_getD hm
    exact h j (by omega)
  · intro h j hj
    exact h _ (getD_mem (by omega))
theorem inI_nil : InI [] := fun y hy => (by cases hy)
theorem inI_sub {l : List Int} (h : InI l) (a b : Nat) : InI (List.take a (List.drop b l)) := fun y hy => h y (List.mem_of_mem_drop (List.mem_of_mem_take hy))
/-- surely, perhaps, not -/
noncomputable def val3 (A B : Prop) : Int := by
  classical exact if A then 2 else if B then 1 else 0
theorem val3_rng (A B : Prop) : 0 ≤ val3 A B ∧ val3 A B ≤ 2 := by
  unfold val3; (repeat' split) <;> omega
theorem val3_bool {e s : Bool} {A B : Prop} (h1 : e = true ↔ A) (h2 : s = true ↔ B) : (if e = true then (2 : Int) else if s = true then 1 else 0) = val3 A B := by
  unfold val3
  by_cases a : A <;> by_cases b : B <;> simp [h1, h2, a, b]
theorem val3_congr {A A' B B' : Prop} (h1 : A ↔ A') (h2 : B ↔ B') : val3 A B = val3 A' B' := by
  rw [propext h1, propext h2]
end Go.Proofs.YtmnpeneplobpdaaDoor.X
