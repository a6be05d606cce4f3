/-
  What the reference's product of numbers of 128 bits tells (datumref01), in whole numbers.
-/
import Derived.Test.YtpgoekfmalpcdaaMRef
import Derived.Test.YtpgoekfmalpcdaaXx3
namespace Go.Proofs.Ytpgoekfmalpcdaa.X
open Go.RowKit Go.Proofs.YtpgoekfmalpcdaaW.PrintWords Go.Proofs.YtpgoekfmalpcdaaW.PrintMore
set_option linter.unusedVariables false
set_option linter.unusedSimpArgs false

/-- one piece of the product: the first i summands -/
def conv (X Y : List Int) (K : Int) : Nat → Int
  | 0 => 0
  | i + 1 => conv X Y K i + (if 0 ≤ K - i ∧ K - i < 8 then X.getD i 0 * Y.getD (K - i).toNat 0 else 0)
def Digits (X : List Int) : Prop := X.length = 8 ∧ ∀ i, 0 ≤ X.getD i 0 ∧ X.getD i 0 < 65536
theorem prod16 {x y : Int} (hx : 0 ≤ x ∧ x < 65536) (hy : 0 ≤ y ∧ y < 65536) : 0 ≤ x * y ∧ x * y ≤ 4294836225 := by
  refine ⟨Int.mul_nonneg hx.1 hy.1, ?_⟩
  have := Int.mul_le_mul (show x ≤ 65535 by omega) (show y ≤ 65535 by omega) hy.1 (by omega)
  omega
theorem conv_bd {X Y : List Int} (hX : Digits X) (hY : Digits Y) (K : Int) (i : Nat) : 0 ≤ conv X Y K i ∧ conv X Y K i ≤ 4294836225 * i := by
  induction i with
  | zero => simp [conv]
  | succ i ih =>
    simp only [conv]
    have := prod16 (hX.2 i) (hY.2 (K - i).toNat)
    split <;> omega
theorem digits_pieces (h l : Int) (h0 : 0 ≤ h) (l0 : 0 ≤ l) : Digits (piecesOf h l) := by
  refine ⟨rfl, fun i => ?_⟩
  match i with
  | 0 | 1 | 2 | 3 | 4 | 5 | 6 | 7 => simp [piecesOf]; omega
  | i + 8 => simp [piecesOf]

theorem times_l1 {X Y : List Int} (hX : Digits X) (hY : Digits Y) (acc : List Int) (K : Int) (hK : 0 ≤ K ∧ K < 16) (hacc : acc.length < 1000) {r : Int × Int × Bool}
    (hr : Ev (fun k => datumref01_Times.l0 k X Y (acc ++ [conv X Y K 8]) (K + 1)) r) (d : Nat) : ∀ i : Nat, i + d = 8 →
    Ev (fun k => datumref01_Times.l1 k X Y acc K (conv X Y K i) 8 i) r := by
  induction d with
  | zero =>
    intro i hi
    obtain rfl : i = 8 := by omega
    refine Ev.step (fun k => ?_) hr
    simp only [datumref01_Times.l1]
    rw [if_neg (by omega), if_pos (by omega), wrap64_id (by omega) (by omega)]
  | succ d ih =>
    intro i hi
    have ih' := ih (i + 1) (by omega)
    have hb := conv_bd hX hY K i
    have hp := prod16 (hX.2 i) (hY.2 (K - i).toNat)
    refine Ev.step (fun k => ?_) ih'
    simp only [datumref01_Times.l1]
    rw [if_pos (by omega), wrap64_id (show -9223372036854775808 ≤ K - (i : Int) by omega) (by omega)]
    have ei : wrap64 ((i : Int) + 1) = ((i + 1 : Nat) : Int) := by rw [wrap64_id (by omega) (by omega)]; rfl
    rw [ei]
    by_cases c1 : 0 ≤ K - (i : Int)
    · by_cases c2 : K - (i : Int) < 8
      · have hxl := hX.1
        have hyl := hY.1
        rw [if_pos c1, if_pos c2, if_pos (by omega), if_pos (by omega), if_pos c1, if_pos (by omega)]
        have e : IntKind.u64.wrap (conv X Y K i + IntKind.u64.wrap (rd X i * rd Y (K - i))) = conv X Y K (i + 1) := by
          simp only [conv]
          rw [if_pos ⟨c1, c2⟩, rd_nat, show rd Y (K - i) = Y.getD (K - i).toNat 0 from rfl, wrapu_id hp.1 (by omega), wrapu_id (by omega) (by omega)]
        rw [e]
      · rw [if_pos c1, if_neg c2]
        have e : conv X Y K (i + 1) = conv X Y K i := by simp only [conv]; rw [if_neg (by omega)]; omega
        rw [e]
    · rw [if_neg c1]
      have e : conv X Y K (i + 1) = conv X Y K i := by simp only [conv]; rw [if_neg (by omega)]; omega
      rw [e]

def convs (X Y : List Int) (n : Nat) : List Int := (List.range n).map fun (i : Nat) => conv X Y (i : Int) 8
theorem convs_succ (X Y : List Int) (n : Nat) : convs X Y (n + 1) = convs X Y n ++ [conv X Y (n : Int) 8] := by simp [convs, List.range_succ]

theorem times_l2 (x8 : List Int) (ys : List Int) (hl : ys.length < 1000) (hp : ∀ x ∈ ys, 0 ≤ x) {h l : Int} (hw : Ev (fun k => datumref01_Whole.f k x8) (h, l)) (d : Nat) : ∀ (i : Nat) (o : Bool), i + d = ys.length →
    Ev (fun k => datumref01_Times.l2 k x8 o ys (ys.length : Int) i) (h, l, o || (ys.drop i).any fun x => decide (0 < x)) := by
  induction d with
  | zero =>
    intro i o hi
    rw [List.drop_of_length_le (by omega)]
    refine Ev.step (fun k => ?_) (Ev.bind (f := fun _ t => some (t.1, t.2, o)) hw (by simpa using Ev.now (h, l, o)))
    simp only [datumref01_Times.l2]
    rw [if_neg (by omega)]
  | succ d ih =>
    intro i o hi
    have hil : i < ys.length := by omega
    have hg : rd ys i = ys[i] := by rw [rd_nat]; simp [List.getD, hil]
    have ei : wrap64 ((i : Int) + 1) = ((i + 1 : Nat) : Int) := by rw [wrap64_id (by omega) (by omega)]; rfl
    by_cases c : 0 < ys[i]
    · have e : (o || (ys.drop i).any fun x => decide (0 < x)) = (true || (ys.drop (i + 1)).any fun x => decide (0 < x)) := by
        rw [List.drop_eq_getElem_cons hil, List.any_cons, decide_eq_true c, Bool.true_or, Bool.or_true]
      rw [e]
      refine Ev.step (fun k => ?_) (ih (i + 1) true (by omega))
      simp only [datumref01_Times.l2]
      rw [if_pos (by omega), if_pos (by omega), if_pos (by omega), hg, if_pos c, ei]
    · have e : (o || (ys.drop i).any fun x => decide (0 < x)) = (o || (ys.drop (i + 1)).any fun x => decide (0 < x)) := by
        rw [List.drop_eq_getElem_cons hil, List.any_cons, decide_eq_false c, Bool.false_or]
      rw [e]
      refine Ev.step (fun k => ?_) (ih (i + 1) o (by omega))
      simp only [datumref01_Times.l2]
      rw [if_pos (by omega), if_pos (by omega), if_pos (by omega), hg, if_neg (by omega), ei]

theorem convs_bd {X Y : List Int} (hX : Digits X) (hY : Digits Y) (n : Nat) : ∀ x ∈ convs X Y n, 0 ≤ x ∧ x < 9007199254740992 := by
  intro x hx
  simp only [convs, List.mem_map] at hx
  obtain ⟨i, _, rfl⟩ := hx
  have := conv_bd hX hY (i : Int) 8
  omega

theorem times_l0 {X Y : List Int} (hX : Digits X) (hY : Digits Y) (d : Nat) : ∀ n : Nat, n + d = 16 →
    Ev (fun k => datumref01_Times.l0 k X Y (convs X Y n) n) (val (convs X Y 16) / 18446744073709551616 % 18446744073709551616, val (convs X Y 16) % 18446744073709551616, decide (340282366920938463463374607431768211456 ≤ val (convs X Y 16))) := by
  induction d with
  | zero =>
    intro n hn
    obtain rfl : n = 16 := by omega
    have hb := convs_bd hX hY 16
    have hlen : (convs X Y 16).length = 16 := by simp [convs]
    obtain ⟨hw, hp, hv⟩ := carried_whole (convs X Y 16) hb (by omega) (by omega)
    have hcl := carried_length (convs X Y 16) 0
    have hdl : ((carried 0 (convs X Y 16)).drop 8).length < 1000 := by rw [List.length_drop]; omega
    have h2 := times_l2 (carried 0 (convs X Y 16)) ((carried 0 (convs X Y 16)).drop 8) hdl hp hw ((carried 0 (convs X Y 16)).drop 8).length 0 false (by omega)
    have hov : (false || (((carried 0 (convs X Y 16)).drop 8).drop 0).any fun x => decide (0 < x)) = decide (340282366920938463463374607431768211456 ≤ val (convs X Y 16)) := by
      rw [Bool.false_or, List.drop_zero, Bool.eq_iff_iff, decide_eq_true_eq, List.any_eq_true]
      simp only [decide_eq_true_eq]
      have hz := val_zero _ hp
      have hn := val_nonneg _ hp
      rw [hv] at hz hn
      constructor
      · rintro ⟨x, hx, hx0⟩
        refine Decidable.byContradiction fun hc => ?_
        have := hz.1 (by have := val_nonneg (convs X Y 16) (fun x hx => (hb x hx).1); omega) x hx
        omega
      · intro hle
        refine Decidable.byContradiction fun hc => ?_
        have : val (convs X Y 16) / 340282366920938463463374607431768211456 = 0 := hz.2 fun x hx => by
          have := hp x hx
          have : ¬ 0 < x := fun h => hc ⟨x, hx, h⟩
          omega
        omega
    rw [hov] at h2
    refine Ev.step (fun k => ?_) (Ev.bind (f := fun k t => if 8 ≤ (t.length : Int) then ((some (t.drop 8 : List Int)).bind fun y => datumref01_Times.l2 k t false y (y.length : Int) 0) else none) (ev_carried (convs X Y 16) hb (by omega)) ?_)
    · simp only [datumref01_Times.l0]
      rw [if_neg (by omega)]
    · refine Ev.congr (fun k => ?_) h2
      rw [if_pos (by omega)]
      rfl
  | succ d ih =>
    intro n hn
    have ih' := ih (n + 1) (by omega)
    have hl1 := times_l1 hX hY (convs X Y n) (n : Int) (by omega) (by simp [convs]; omega) (r := _) (by rw [← convs_succ]; exact ih') 8 0 (by omega)
    refine Ev.step (fun k => ?_) hl1
    simp only [datumref01_Times.l0]
    rw [if_pos (by omega), hX.1]
    rfl

theorem mul_val8 (x a b c d e f g h : Int) : x * (a + 65536 * (b + 65536 * (c + 65536 * (d + 65536 * (e + 65536 * (f + 65536 * (g + 65536 * h))))))) =
    x * a + 65536 * (x * b + 65536 * (x * c + 65536 * (x * d + 65536 * (x * e + 65536 * (x * f + 65536 * (x * g + 65536 * (x * h))))))) := by
  simp only [Int.mul_add, Int.mul_left_comm x 65536]
theorem val_convs (X Y : List Int) (hX : X.length = 8) (hY : Y.length = 8) : val (convs X Y 16) = val X * val Y := by
  match X, hX, Y, hY with
  | [x0, x1, x2, x3, x4, x5, x6, x7], _, [y0, y1, y2, y3, y4, y5, y6, y7], _ =>
    have hc : convs [x0, x1, x2, x3, x4, x5, x6, x7] [y0, y1, y2, y3, y4, y5, y6, y7] 16 = [x0 * y0, x0 * y1 + x1 * y0, x0 * y2 + x1 * y1 + x2 * y0, x0 * y3 + x1 * y2 + x2 * y1 + x3 * y0, x0 * y4 + x1 * y3 + x2 * y2 + x3 * y1 + x4 * y0,
        x0 * y5 + x1 * y4 + x2 * y3 + x3 * y2 + x4 * y1 + x5 * y0, x0 * y6 + x1 * y5 + x2 * y4 + x3 * y3 + x4 * y2 + x5 * y1 + x6 * y0, x0 * y7 + x1 * y6 + x2 * y5 + x3 * y4 + x4 * y3 + x5 * y2 + x6 * y1 + x7 * y0,
        x1 * y7 + x2 * y6 + x3 * y5 + x4 * y4 + x5 * y3 + x6 * y2 + x7 * y1, x2 * y7 + x3 * y6 + x4 * y5 + x5 * y4 + x6 * y3 + x7 * y2, x3 * y7 + x4 * y6 + x5 * y5 + x6 * y4 + x7 * y3, x4 * y7 + x5 * y6 + x6 * y5 + x7 * y4, x5 * y7 + x6 * y6 + x7 * y5, x6 * y7 + x7 * y6, x7 * y7, 0] := by
      simp [convs, conv, List.range_succ]
    rw [hc]
    simp only [val]
    rw [Int.add_mul, Int.mul_assoc, Int.add_mul, Int.mul_assoc, Int.add_mul, Int.mul_assoc, Int.add_mul, Int.mul_assoc, Int.add_mul, Int.mul_assoc, Int.add_mul, Int.mul_assoc, Int.add_mul, Int.mul_assoc, Int.add_mul, Int.mul_assoc]
    simp only [Int.zero_mul, Int.mul_zero, Int.add_zero]
    simp only [mul_val8]
    omega

theorem ev_times (ah al bh bl : Int) (h1 : 0 ≤ ah ∧ ah < 18446744073709551616) (h2 : 0 ≤ al ∧ al < 18446744073709551616) (h3 : 0 ≤ bh ∧ bh < 18446744073709551616) (h4 : 0 ≤ bl ∧ bl < 18446744073709551616) :
    Ev (fun k => datumref01_Times.f k ah al bh bl) ((ah * 18446744073709551616 + al) * (bh * 18446744073709551616 + bl) / 18446744073709551616 % 18446744073709551616, (ah * 18446744073709551616 + al) * (bh * 18446744073709551616 + bl) % 18446744073709551616, decide (340282366920938463463374607431768211456 ≤ (ah * 18446744073709551616 + al) * (bh * 18446744073709551616 + bl))) := by
  have hX := digits_pieces ah al h1.1 h2.1
  have hY := digits_pieces bh bl h3.1 h4.1
  have h := times_l0 hX hY 16 0 (by omega)
  rw [val_convs _ _ hX.1 hY.1, val_pieces ah al h1 h2, val_pieces bh bl h3 h4] at h
  refine Ev.bind (f := fun k t => (datumref01_Pieces.f k bh bl).bind fun u => datumref01_Times.l0 k t u (([] : List Int)) 0) (ev_pieces ah al h1.1 h2.1) ?_
  exact Ev.bind (f := fun k u => datumref01_Times.l0 k (piecesOf ah al) u (([] : List Int)) 0) (ev_pieces bh bl h3.1 h4.1) h
end Go.Proofs.Ytpgoekfmalpcdaa.X
