/-
  What the reference's sum of numbers of 128 bits tells (datumref01), in whole numbers.
-/
import Derived.Test.YtpgoekfmalpcdaaMRef
import Derived.Test.YtpgoekfmalpcdaaXx4
namespace Go.Proofs.Ytpgoekfmalpcdaa.X
open Go.RowKit Go.Proofs.YtpgoekfmalpcdaaW.PrintWords Go.Proofs.YtpgoekfmalpcdaaW.PrintMore
set_option linter.unusedVariables false
set_option linter.unusedSimpArgs false

theorem carried_last (l : List Int) : ∀ c, (∀ x ∈ l, 0 ≤ x) → 0 ≤ c → (carried c l).drop l.length = [(carried c l).getD l.length 0] := by
  induction l with
  | nil => intro c _ _; simp [carried]
  | cons x r ih => intro c hx hc; simpa [carried] using ih ((x + c) / 65536) (fun y hy => hx y (by simp [hy])) (by have := hx x (by simp); omega)

def sums (X Y : List Int) (n : Nat) : List Int := (List.range n).map fun (i : Nat) => X.getD i 0 + Y.getD i 0
theorem sums_succ (X Y : List Int) (n : Nat) : sums X Y (n + 1) = sums X Y n ++ [X.getD n 0 + Y.getD n 0] := by simp [sums, List.range_succ]

theorem add_l0 (X Y : List Int) (hX : X.length = 8) (hY : Y.length = 8) (bX : ∀ i, 0 ≤ X.getD i 0 ∧ X.getD i 0 < 65536) (bY : ∀ i, 0 ≤ Y.getD i 0 ∧ Y.getD i 0 < 65536) (d : Nat) : ∀ n : Nat, n + d = 8 →
    Ev (fun k => datumref01_Add.l0 k X Y (sums X Y n) 8 n) (val (sums X Y 8) / 18446744073709551616 % 18446744073709551616, val (sums X Y 8) % 18446744073709551616, decide (340282366920938463463374607431768211456 ≤ val (sums X Y 8))) := by
  induction d with
  | zero =>
    intro n hn
    obtain rfl : n = 8 := by omega
    have hb : ∀ x ∈ sums X Y 8, 0 ≤ x ∧ x < 9007199254740992 := by
      intro x hx
      simp only [sums, List.mem_map] at hx
      obtain ⟨i, _, rfl⟩ := hx
      have := bX i; have := bY i; omega
    have hlen : (sums X Y 8).length = 8 := by simp [sums]
    obtain ⟨hw, hp, hv⟩ := carried_whole (sums X Y 8) hb (by omega) (by omega)
    have hcl := carried_length (sums X Y 8) 0
    have hlast := carried_last (sums X Y 8) 0 (fun x hx => (hb x hx).1) (by omega)
    rw [hlen] at hlast
    rw [hlast] at hv
    simp only [val] at hv
    refine Ev.step (fun k => ?_) (Ev.bind (f := fun k t => (datumref01_Whole.f k t).bind fun bt => if 8 < (t.length : Int) then (some (bt.1, bt.2, decide ((rd t 8) > 0))) else none) (ev_carried (sums X Y 8) hb (by omega)) ?_)
    · simp only [datumref01_Add.l0]
      rw [if_neg (by omega)]
    · refine Ev.bind (f := fun _ bt => if 8 < ((carried 0 (sums X Y 8)).length : Int) then (some (bt.1, bt.2, decide ((rd (carried 0 (sums X Y 8)) 8) > 0))) else none) hw ?_
      refine Ev.congr (fun k => ?_) (Ev.now _)
      rw [if_pos (by omega)]
      congr 3
      have e : rd (carried 0 (sums X Y 8)) 8 = (carried 0 (sums X Y 8)).getD 8 0 := rfl
      rw [Bool.eq_iff_iff, decide_eq_true_eq, decide_eq_true_eq, e]
      omega
  | succ d ih =>
    intro n hn
    have ih' := ih (n + 1) (by omega)
    rw [sums_succ] at ih'
    have h1 := bX n
    have h2 := bY n
    have hsl : (sums X Y n).length = n := by simp [sums]
    refine Ev.step (fun k => ?_) ih'
    simp only [datumref01_Add.l0]
    rw [if_pos (by omega), if_pos (by omega), if_pos (by omega), if_pos (by omega), if_pos (by omega), rd_nat, rd_nat, wrapu_id (by omega) (by omega), wrap64_id (by omega) (by omega)]
    rfl
theorem val_sums (X Y : List Int) (hX : X.length = 8) (hY : Y.length = 8) : val (sums X Y 8) = val X + val Y := by
  match X, hX, Y, hY with
  | [x0, x1, x2, x3, x4, x5, x6, x7], _, [y0, y1, y2, y3, y4, y5, y6, y7], _ =>
    simp [sums, val, List.range_succ]
    omega
theorem digs (h l : Int) (h0 : 0 ≤ h) (l0 : 0 ≤ l) (i : Nat) : 0 ≤ (piecesOf h l).getD i 0 ∧ (piecesOf h l).getD i 0 < 65536 := by
  match i with
  | 0 | 1 | 2 | 3 | 4 | 5 | 6 | 7 => simp [piecesOf]; omega
  | i + 8 => simp [piecesOf]
theorem ev_add (ah al bh bl : Int) (h1 : 0 ≤ ah ∧ ah < 18446744073709551616) (h2 : 0 ≤ al ∧ al < 18446744073709551616) (h3 : 0 ≤ bh ∧ bh < 18446744073709551616) (h4 : 0 ≤ bl ∧ bl < 18446744073709551616) :
    Ev (fun k => datumref01_Add.f k ah al bh bl) (((ah * 18446744073709551616 + al) + (bh * 18446744073709551616 + bl)) / 18446744073709551616 % 18446744073709551616, ((ah * 18446744073709551616 + al) + (bh * 18446744073709551616 + bl)) % 18446744073709551616, decide (340282366920938463463374607431768211456 ≤ (ah * 18446744073709551616 + al) + (bh * 18446744073709551616 + bl))) := by
  have h := add_l0 (piecesOf ah al) (piecesOf bh bl) rfl rfl (digs ah al h1.1 h2.1) (digs bh bl h3.1 h4.1) 8 0 (by omega)
  rw [val_sums _ _ rfl rfl, val_pieces ah al h1 h2, val_pieces bh bl h3 h4] at h
  refine Ev.bind (f := fun k t => (datumref01_Pieces.f k bh bl).bind fun u => datumref01_Add.l0 k t u (([] : List Int)) (t.length : Int) 0) (ev_pieces ah al h1.1 h2.1) ?_
  exact Ev.bind (f := fun k u => datumref01_Add.l0 k (piecesOf ah al) u (([] : List Int)) ((piecesOf ah al).length : Int) 0) (ev_pieces bh bl h3.1 h4.1) h
end Go.Proofs.Ytpgoekfmalpcdaa.X
