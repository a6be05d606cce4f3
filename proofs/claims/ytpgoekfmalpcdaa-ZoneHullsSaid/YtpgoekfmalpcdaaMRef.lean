/-
  What the reference's functions on numbers of 128 bits tell (datumref01), in whole numbers.
-/
import Derived.Test.YtpgoekfmalpcdaaXx2
namespace Go.Proofs.Ytpgoekfmalpcdaa.X
open Go.RowKit Go.Proofs.YtpgoekfmalpcdaaW.PrintWords Go.Proofs.YtpgoekfmalpcdaaW.PrintMore
set_option linter.unusedVariables false
set_option linter.unusedSimpArgs false

theorem wrap64_id {x : Int} (h0 : -9223372036854775808 ≤ x) (h1 : x < 9223372036854775808) : wrap64 x = x := by unfold wrap64; omega
theorem wrapu_id {x : Int} (h0 : 0 ≤ x) (h1 : x < 18446744073709551616) : IntKind.u64.wrap x = x := by rw [IntKind.wrap_u64]; omega

/-- digits of 16 bits, the lowest first: their value -/
def val : List Int → Int
  | [] => 0
  | x :: r => x + 65536 * val r
def piecesOf (h l : Int) : List Int :=
  [l % 65536, l / 65536 % 65536, l / 4294967296 % 65536, l / 281474976710656 % 65536, h % 65536, h / 65536 % 65536, h / 4294967296 % 65536, h / 281474976710656 % 65536]

theorem tmod_pos {x : Int} (h : 0 ≤ x) : Int.tmod x 65536 = x % 65536 := Int.tmod_eq_emod_of_nonneg h
theorem tdiv_pos {x : Int} (h : 0 ≤ x) : Int.tdiv x 65536 = x / 65536 := Int.tdiv_eq_ediv_of_nonneg h

theorem u16 (i : Int) (h0 : 0 ≤ i) (h1 : i < 4) : IntKind.u64.wrap (16 * (IntKind.u64.wrap i)) = 16 * i := by
  rw [wrapu_id h0 (by omega), wrapu_id (by omega) (by omega)]
theorem shr16 (x i : Int) (h0 : 0 ≤ i) (h1 : i < 4) : shr .u64 x (16 * i) = x / 2 ^ (16 * i).toNat := by
  unfold shr
  rw [show IntKind.u64.bits = 64 from rfl, Nat.min_eq_left (by omega)]

theorem pieces_l0 (k : Nat) (xs : List Int) (i h l : Int) (h0 : 0 ≤ i) (h1 : i < 4) (hl : 0 ≤ l) (hx : xs.length < 17592186044416) :
    datumref01_Pieces.l0 (k + 1) xs i h l = datumref01_Pieces.l0 k (xs ++ [l / 2 ^ (16 * i).toNat % 65536]) (i + 1) h l := by
  simp only [datumref01_Pieces.l0]
  rw [u16 i h0 h1, if_pos h1, if_pos (by omega), if_pos hx, shr16 l i h0 h1, tmod_pos (Int.ediv_nonneg hl (Int.pow_nonneg (by omega))), wrap64_id (by omega) (by omega)]
theorem pieces_l1 (k : Nat) (xs : List Int) (i h l : Int) (h0 : 0 ≤ i) (h1 : i < 4) (hl : 0 ≤ h) (hx : xs.length < 17592186044416) :
    datumref01_Pieces.l1 (k + 1) xs i h l = datumref01_Pieces.l1 k (xs ++ [h / 2 ^ (16 * i).toNat % 65536]) (i + 1) h l := by
  simp only [datumref01_Pieces.l1]
  rw [u16 i h0 h1, if_pos h1, if_pos (by omega), if_pos hx, shr16 h i h0 h1, tmod_pos (Int.ediv_nonneg hl (Int.pow_nonneg (by omega))), wrap64_id (by omega) (by omega)]
theorem pieces_ok (k : Nat) (h l : Int) (h0 : 0 ≤ h) (l0 : 0 ≤ l) : datumref01_Pieces.f (k + 10) h l = some (piecesOf h l) := by
  unfold datumref01_Pieces.f
  rw [pieces_l0 (k + 9) _ 0 h l (by omega) (by omega) l0 (by simp), pieces_l0 (k + 8) _ _ h l (by omega) (by omega) l0 (by simp), pieces_l0 (k + 7) _ _ h l (by omega) (by omega) l0 (by simp), pieces_l0 (k + 6) _ _ h l (by omega) (by omega) l0 (by simp)]
  rw [show datumref01_Pieces.l0 (k + 6) (([] ++ [l / 2 ^ (16 * 0 : Int).toNat % 65536] ++ [l / 2 ^ (16 * (0 + 1) : Int).toNat % 65536] ++ [l / 2 ^ (16 * (0 + 1 + 1) : Int).toNat % 65536]) ++ [l / 2 ^ (16 * (0 + 1 + 1 + 1) : Int).toNat % 65536]) (0 + 1 + 1 + 1 + 1) h l = datumref01_Pieces.l1 (k + 5) [l % 65536, l / 65536 % 65536, l / 4294967296 % 65536, l / 281474976710656 % 65536] 0 h l from by
    simp only [datumref01_Pieces.l0]; rw [if_neg (by omega)]; congr 1; simp]
  rw [pieces_l1 (k + 4) _ 0 h l (by omega) (by omega) h0 (by simp), pieces_l1 (k + 3) _ _ h l (by omega) (by omega) h0 (by simp), pieces_l1 (k + 2) _ _ h l (by omega) (by omega) h0 (by simp), pieces_l1 (k + 1) _ _ h l (by omega) (by omega) h0 (by simp)]
  simp only [datumref01_Pieces.l1]
  rw [if_neg (by omega)]
  simp [piecesOf]

theorem val_append (xs ys : List Int) : val (xs ++ ys) = val xs + 65536 ^ xs.length * val ys := by
  induction xs with
  | nil => simp [val]
  | cons x r ih => simp only [List.cons_append, val, ih, List.length_cons, Int.pow_succ]; grind

/-- with what is left of each carried on to the next -/
def carried (c : Int) : List Int → List Int
  | [] => [c]
  | x :: r => (x + c) % 65536 :: carried ((x + c) / 65536) r
theorem carried_length (l : List Int) : ∀ c, (carried c l).length = l.length + 1 := by
  induction l with
  | nil => intro c; rfl
  | cons x r ih => intro c; simp [carried, ih]
theorem carried_val (l : List Int) : ∀ c, val (carried c l) = val l + c := by
  induction l with
  | nil => intro c; simp [carried, val]
  | cons x r ih => intro c; simp only [carried, val, ih]; omega
theorem rd_nat (l : List Int) (i : Nat) : rd l i = l.getD i 0 := by unfold rd; simp

theorem carried_l0 (k : Nat) (x3 : List Int) (c : Int) (l : List Int) (i : Nat) (hi : i < l.length) (hc : 0 ≤ c) (hc1 : c < 1125899906842624) (hx : 0 ≤ l.getD i 0) (hx1 : l.getD i 0 < 9007199254740992) (hl : l.length < 1000) (h3 : x3.length < 17592186044416) :
    datumref01_Carried.l0 (k + 1) x3 c l (l.length : Int) (i : Int) = datumref01_Carried.l0 k (x3 ++ [(l.getD i 0 + c) % 65536]) ((l.getD i 0 + c) / 65536) l (l.length : Int) ((i + 1 : Nat) : Int) := by
  simp only [datumref01_Carried.l0]
  rw [if_pos (by omega), if_pos (by omega), if_pos (by omega), if_pos h3, rd_nat, wrapu_id (by omega) (by omega), tmod_pos (by omega), tdiv_pos (by omega), wrapu_id (by omega) (by omega), wrap64_id (by omega) (by omega)]
  rfl

theorem carried_from (l : List Int) (hall : ∀ x ∈ l, 0 ≤ x ∧ x < 9007199254740992) (hl : l.length < 1000) (d : Nat) : ∀ (i k : Nat) (x3 : List Int) (c : Int), i + d = l.length → x3.length = i → 0 ≤ c → c < 1125899906842624 →
    datumref01_Carried.l0 (k + d + 1) x3 c l (l.length : Int) (i : Int) = some (x3 ++ carried c (l.drop i)) := by
  induction d with
  | zero =>
    intro i k x3 c hi h3 hc hc1
    simp only [datumref01_Carried.l0]
    rw [if_neg (by omega), if_pos (by omega), List.drop_of_length_le (by omega)]
    rfl
  | succ d ih =>
    intro i k x3 c hi h3 hc hc1
    have hil : i < l.length := by omega
    have hg : l.getD i 0 = l[i] := by simp [List.getD, hil]
    have hm := hall l[i] (List.getElem_mem hil)
    rw [← hg] at hm
    rw [show k + (d + 1) + 1 = (k + d + 1) + 1 from by omega, carried_l0 _ _ _ _ _ hil hc hc1 hm.1 (by omega) hl (by omega)]
    rw [ih (i + 1) k _ _ (by omega) (by simp; omega) (by omega) (by omega)]
    rw [List.append_assoc, List.drop_eq_getElem_cons hil]
    simp [carried, hg, hil]
theorem carried_ok (k : Nat) (l : List Int) (hall : ∀ x ∈ l, 0 ≤ x ∧ x < 9007199254740992) (hl : l.length < 1000) : datumref01_Carried.f (k + l.length + 1) l = some (carried 0 l) := by
  unfold datumref01_Carried.f
  have := carried_from l hall hl l.length 0 k [] 0 (by omega) rfl (by omega) (by omega)
  simpa using this

theorem carried_digits (l : List Int) : ∀ c, (∀ x ∈ l, 0 ≤ x) → 0 ≤ c → (∀ i, i < l.length → 0 ≤ (carried c l).getD i 0 ∧ (carried c l).getD i 0 < 65536) ∧ 0 ≤ (carried c l).getD l.length 0 := by
  induction l with
  | nil => intro c _ hc; simp [carried, hc]
  | cons x r ih =>
    intro c hx hc
    have h1 := hx x (by simp)
    obtain ⟨a, b⟩ := ih ((x + c) / 65536) (fun y hy => hx y (by simp [hy])) (by omega)
    refine ⟨fun i hi => ?_, by simpa [carried] using b⟩
    cases i with
    | zero => simp [carried]; omega
    | succ i => simpa [carried] using a i (by simpa using hi)

theorem shl16 (x i : Int) (h0 : 0 ≤ i) (h1 : i < 4) : shl .u64 x (16 * i) = IntKind.u64.wrap (x * 2 ^ (16 * i).toNat) := by
  unfold shl
  rw [show IntKind.u64.bits = 64 from rfl, Nat.min_eq_left (by omega)]
theorem whole_l0 (k : Nat) (l : List Int) (i a b p x y : Int) (h0 : 0 ≤ i) (h1 : i < 4) (hl : 8 ≤ l.length) (hp : (2 : Int) ^ (16 * i).toNat = p) (hx : l.getD (4 + i).toNat 0 = x) (hy : l.getD i.toNat 0 = y)
    (bx : 0 ≤ x * p ∧ 0 ≤ a ∧ a + x * p < 18446744073709551616) (by_ : 0 ≤ y * p ∧ 0 ≤ b ∧ b + y * p < 18446744073709551616) :
    datumref01_Whole.l0 (k + 1) l i a b = datumref01_Whole.l0 k l (i + 1) (a + x * p) (b + y * p) := by
  simp only [datumref01_Whole.l0]
  rw [u16 i h0 h1, wrap64_id (show -9223372036854775808 ≤ 4 + i by omega) (by omega), if_pos h1, if_pos h0, if_pos (by omega), if_pos (by omega), if_pos (by omega), if_pos (by omega), shl16 _ i h0 h1, shl16 _ i h0 h1, wrap64_id (by omega) (by omega)]
  simp only [rd]
  rw [hp, hx, hy, wrapu_id bx.1 (by omega), wrapu_id by_.1 (by omega), wrapu_id (by omega) (by omega), wrapu_id (by omega) (by omega)]
theorem whole_ok (k : Nat) (l : List Int) (hl : 8 ≤ l.length) (hd : ∀ i, i < 8 → 0 ≤ l.getD i 0 ∧ l.getD i 0 < 65536) :
    datumref01_Whole.f (k + 5) l = some (l.getD 4 0 + 65536 * l.getD 5 0 + 4294967296 * l.getD 6 0 + 281474976710656 * l.getD 7 0, l.getD 0 0 + 65536 * l.getD 1 0 + 4294967296 * l.getD 2 0 + 281474976710656 * l.getD 3 0) := by
  have d0 := hd 0 (by omega)
  have d1 := hd 1 (by omega)
  have d2 := hd 2 (by omega)
  have d3 := hd 3 (by omega)
  have d4 := hd 4 (by omega)
  have d5 := hd 5 (by omega)
  have d6 := hd 6 (by omega)
  have d7 := hd 7 (by omega)
  unfold datumref01_Whole.f
  rw [whole_l0 (k + 4) l 0 0 0 1 (l.getD 4 0) (l.getD 0 0) (by omega) (by omega) hl (by rfl) rfl rfl (by omega) (by omega)]
  rw [whole_l0 (k + 3) l (0 + 1) _ _ 65536 (l.getD 5 0) (l.getD 1 0) (by omega) (by omega) hl (by rfl) rfl rfl (by omega) (by omega)]
  rw [whole_l0 (k + 2) l (0 + 1 + 1) _ _ 4294967296 (l.getD 6 0) (l.getD 2 0) (by omega) (by omega) hl (by rfl) rfl rfl (by omega) (by omega)]
  rw [whole_l0 (k + 1) l (0 + 1 + 1 + 1) _ _ 281474976710656 (l.getD 7 0) (l.getD 3 0) (by omega) (by omega) hl (by rfl) rfl rfl (by omega) (by omega)]
  simp only [datumref01_Whole.l0]
  rw [if_neg (by omega)]
  congr 2 <;> omega

/-- The first eight digits, and what is behind them. -/
theorem val_eight (l : List Int) (hl : 8 ≤ l.length) : val l = (l.getD 0 0 + 65536 * l.getD 1 0 + 4294967296 * l.getD 2 0 + 281474976710656 * l.getD 3 0) + 18446744073709551616 * (l.getD 4 0 + 65536 * l.getD 5 0 + 4294967296 * l.getD 6 0 + 281474976710656 * l.getD 7 0) + 340282366920938463463374607431768211456 * val (l.drop 8) := by
  match l, hl with
  | a :: b :: c :: d :: e :: f :: g :: h :: r, _ => simp [val]; omega
theorem val_nonneg (l : List Int) (h : ∀ x ∈ l, 0 ≤ x) : 0 ≤ val l := by
  induction l with
  | nil => simp [val]
  | cons x r ih => simp only [val]; have := h x (by simp); have := ih (fun y hy => h y (by simp [hy])); omega
theorem val_zero (l : List Int) (h : ∀ x ∈ l, 0 ≤ x) : val l = 0 ↔ ∀ x ∈ l, x = 0 := by
  induction l with
  | nil => simp [val]
  | cons x r ih =>
    have h1 := h x (by simp)
    have h2 := fun y hy => h y (List.mem_cons_of_mem x hy)
    have h3 := val_nonneg r h2
    simp only [val, List.forall_mem_cons]
    rw [← ih h2]
    omega
theorem val_pieces (h l : Int) (h0 : 0 ≤ h ∧ h < 18446744073709551616) (l0 : 0 ≤ l ∧ l < 18446744073709551616) : val (piecesOf h l) = h * 18446744073709551616 + l := by
  simp only [piecesOf, val]; omega

theorem Ev.shift {α : Type} {g : Nat → Option α} {r : α} (n : Nat) (h : ∀ k, g (k + n) = some r) : Ev g r := ⟨n, fun k hk => by have := h (k - n); rwa [Nat.sub_add_cancel hk] at this⟩
theorem ev_pieces (h l : Int) (h0 : 0 ≤ h) (l0 : 0 ≤ l) : Ev (fun k => datumref01_Pieces.f k h l) (piecesOf h l) := Ev.shift 10 fun k => pieces_ok k h l h0 l0
theorem ev_carried (l : List Int) (hall : ∀ x ∈ l, 0 ≤ x ∧ x < 9007199254740992) (hl : l.length < 1000) : Ev (fun k => datumref01_Carried.f k l) (carried 0 l) := Ev.shift (l.length + 1) fun k => carried_ok k l hall hl
theorem ev_whole (l : List Int) (hl : 8 ≤ l.length) (hd : ∀ i, i < 8 → 0 ≤ l.getD i 0 ∧ l.getD i 0 < 65536) : Ev (fun k => datumref01_Whole.f k l) (l.getD 4 0 + 65536 * l.getD 5 0 + 4294967296 * l.getD 6 0 + 281474976710656 * l.getD 7 0, l.getD 0 0 + 65536 * l.getD 1 0 + 4294967296 * l.getD 2 0 + 281474976710656 * l.getD 3 0) := Ev.shift 5 fun k => whole_ok k l hl hd

/-- what Carried and Whole make of eight numbers or more: their value, below 2^128 -/
theorem carried_whole (l : List Int) (hall : ∀ x ∈ l, 0 ≤ x ∧ x < 9007199254740992) (hl8 : 8 ≤ l.length) (hl : l.length < 1000) :
    Ev (fun k => datumref01_Whole.f k (carried 0 l)) (val l / 18446744073709551616 % 18446744073709551616, val l % 18446744073709551616) ∧
    (∀ x ∈ (carried 0 l).drop 8, 0 ≤ x) ∧ val ((carried 0 l).drop 8) = val l / 340282366920938463463374607431768211456 := by
  have hlen := carried_length l 0
  obtain ⟨hd, hlast⟩ := carried_digits l 0 (fun x hx => (hall x hx).1) (by omega)
  have hv := val_eight (carried 0 l) (by omega)
  rw [carried_val] at hv
  have d0 := hd 0 (by omega)
  have d1 := hd 1 (by omega)
  have d2 := hd 2 (by omega)
  have d3 := hd 3 (by omega)
  have d4 := hd 4 (by omega)
  have d5 := hd 5 (by omega)
  have d6 := hd 6 (by omega)
  have d7 := hd 7 (by omega)
  have hpos : ∀ x ∈ (carried 0 l).drop 8, 0 ≤ x := by
    intro x hx
    obtain ⟨j, hj, rfl⟩ := List.getElem_of_mem hx
    rw [List.getElem_drop]
    have hj' : 8 + j < (carried 0 l).length := by simpa [Nat.lt_sub_iff_add_lt, Nat.add_comm] using hj
    have e : (carried 0 l)[8 + j] = (carried 0 l).getD (8 + j) 0 := by simp [List.getD, hj']
    rw [e]
    by_cases h : 8 + j < l.length
    · exact (hd _ h).1
    · rw [show 8 + j = l.length from by omega]; exact hlast
  have hvn := val_nonneg _ hpos
  refine ⟨?_, hpos, by omega⟩
  have := ev_whole (carried 0 l) (by omega) (fun i hi => hd i (by omega))
  have e1 : (carried 0 l).getD 4 0 + 65536 * (carried 0 l).getD 5 0 + 4294967296 * (carried 0 l).getD 6 0 + 281474976710656 * (carried 0 l).getD 7 0 = val l / 18446744073709551616 % 18446744073709551616 := by omega
  have e2 : (carried 0 l).getD 0 0 + 65536 * (carried 0 l).getD 1 0 + 4294967296 * (carried 0 l).getD 2 0 + 281474976710656 * (carried 0 l).getD 3 0 = val l % 18446744073709551616 := by omega
  rwa [e1, e2] at this
end Go.Proofs.Ytpgoekfmalpcdaa.X
