/-
  able.Cp and able.Cpk, by contract.
-/
import Derived.Test.YtglpelnaeipenaaGreatSxAbleTry
import Derived.Test.YtglpelnaeipenaaGreatSxMulDiv
import Derived.Test.YtglpelnaeipenaaGreatSxBs
import Derived.Test.YtglpelnaeipenaaGreatSxFct
namespace Go.Proofs.YtglpelnaeipenaaGreat.X
open Go Go.SX
set_option linter.unusedVariables false
set_option linter.unusedSimpArgs false





def cbE (z m s r la a b k : Int) : Int := if BsOK z m s r la ∧ -1000000 ≤ a ∧ b ≤ 1000000 ∧ a < b then if 1 ≤ k ∧ k ≤ 1000 then if m < 2 then 12 else if r = 0 then 6 else 0 else 3 else 1
theorem cbE_rng (z m s r la a b k : Int) : 0 ≤ cbE z m s r la a b k ∧ cbE z m s r la a b k ≤ 12 := by unfold cbE; (repeat' split) <;> omega
/-- what a base's numbers are multiplied by -/
def cbW (z m : Int) : Int := ftab 3 (bwK z) * bwM z m
def cpN (z m a b k : Int) : Int := (b - a) * k * cbW z m
def cpD (r : Int) : Int := 60000 * r
def cbNear (z m s a b : Int) : Int := if s - a * (m * z) < b * (m * z) - s then s - a * (m * z) else b * (m * z) - s
def ckN (z m s a b k : Int) : Int := cbNear z m s a b * k * cbW z m
def ckD (z m r : Int) : Int := 30000 * r * (m * z)
theorem rz_rng {N C K m : Int} (hm : m = 0 ∨ m = 1) (hC : 0 < C) (hN : -K ≤ N ∧ N ≤ K) : -K ≤ roundZ N C m ∧ roundZ N C m ≤ K := by
  have h : ∀ T : Int, -K ≤ T → T ≤ K → -K ≤ T / C ∧ T / C ≤ K := by
    intro T h1 h2
    have hK : 0 ≤ K := by omega
    have hk : K * 1 ≤ K * C := Int.mul_le_mul_of_nonneg_left (by omega) hK
    have e : -K * C = -(K * C) := Int.neg_mul K C
    exact ⟨(Int.le_ediv_iff_mul_le hC).2 (by omega), Int.ediv_le_of_le_mul hC (by omega)⟩
  have h1 := h N hN.1 hN.2
  have h2 := h (-N) (by omega) (by omega)
  unfold roundZ
  rcases hm with rfl | rfl
  · rw [if_pos rfl]; exact h1
  · rw [if_neg (by omega), if_pos rfl]; omega
theorem md_pos {a b c m K : Int} (hm : m = 0 ∨ m = 1) (hc : 0 < c) (hN : -K ≤ a * b ∧ a * b ≤ K) (hK : K ≤ 9223372036854775807) : mdZ a b c m = roundZ (a * b) c m ∧ mdV a b c m = roundZ (a * b) c m ∧ mdE a b c m = 0 := by
  have h1 : mdZ a b c m = roundZ (a * b) c m := by
    unfold mdZ absZ
    rw [if_neg (show ¬ c < 0 by omega), if_neg (show ¬ c < 0 by omega)]
  have h2 := rz_rng hm hc hN
  have h3 : IsI (mdZ a b c m) := by rw [h1]; exact ⟨by omega, by omega⟩
  have h4 : 0 ≤ m ∧ m < 3 := by omega
  refine ⟨h1, ?_, ?_⟩
  · unfold mdV; rw [if_pos ⟨h4, by omega, h3⟩, h1]
  · unfold mdE; rw [if_pos h4, if_neg (show ¬ c = 0 by omega), if_pos h3]
theorem cbW_rng {z m : Int} (h : 0 ≤ m ∧ m ≤ 25) (h2 : 2 ≤ m) : 0 ≤ cbW z m ∧ cbW z m ≤ 816750 := by
  have t := ftab_rng 3 (bwK z)
  have hm : 0 ≤ bwM z m ∧ bwM z m ≤ 25 := by unfold bwM; split <;> omega
  have e := mbd 32670 25 (a := ftab 3 (bwK z)) (b := bwM z m) (by omega) (by omega)
  have e0 := Int.mul_nonneg (a := ftab 3 (bwK z)) (b := bwM z m) (by omega) (by omega)
  unfold cbW
  omega
theorem cp_rng {z m a b k : Int} (h : 0 ≤ m ∧ m ≤ 25) (h2 : 2 ≤ m) (hab : -1000000 ≤ a ∧ b ≤ 1000000 ∧ a < b) (hk : 1 ≤ k ∧ k ≤ 1000) : (-2000000000 ≤ (b - a) * k ∧ (b - a) * k ≤ 2000000000) ∧ -1633500000000000 ≤ cpN z m a b k ∧ cpN z m a b k ≤ 1633500000000000 := by
  have w := cbW_rng (z := z) h h2
  have e1 := mbd 2000000 1000 (a := b - a) (b := k) (by omega) (by omega)
  have e2 := mbd 2000000000 816750 (a := (b - a) * k) (b := cbW z m) (by omega) (by omega)
  unfold cpN
  omega
theorem ck_rng {z m s r la a b k : Int} (c : BsOK z m s r la) (h2 : 2 ≤ m) (hr : 0 < r) (hab : -1000000 ≤ a ∧ b ≤ 1000000 ∧ a < b) (hk : 1 ≤ k ∧ k ≤ 1000) :
    (1 ≤ m * z ∧ m * z ≤ 250) ∧ (-250000000 ≤ b * (m * z) ∧ b * (m * z) ≤ 250000000) ∧ (-250000000 ≤ a * (m * z) ∧ a * (m * z) ≤ 250000000) ∧ (-500000000 ≤ cbNear z m s a b ∧ cbNear z m s a b ≤ 500000000) ∧
      (-500000000000 ≤ cbNear z m s a b * k ∧ cbNear z m s a b * k ≤ 500000000000) ∧ (-408375000000000000 ≤ ckN z m s a b k ∧ ckN z m s a b k ≤ 408375000000000000) ∧ (1 ≤ ckD z m r ∧ ckD z m r ≤ 375000000000000) := by
  have hb := bs_bd c
  obtain ⟨q1, q2, q3, q4, q5, q6⟩ := c
  have w := cbW_rng (z := z) q2 h2
  have e1 := mbd 25 10 (a := m) (b := z) (by omega) (by omega)
  have e0 : 1 * 1 ≤ m * z := Int.mul_le_mul (by omega) (by omega) (by omega) (by omega)
  have e2 := mbd 1000000 250 (a := b) (b := m * z) (by omega) (by omega)
  have e3 := mbd 1000000 250 (a := a) (b := m * z) (by omega) (by omega)
  have hn : -500000000 ≤ cbNear z m s a b ∧ cbNear z m s a b ≤ 500000000 := by unfold cbNear; split <;> omega
  have e4 := mbd 500000000 1000 (a := cbNear z m s a b) (b := k) hn (by omega)
  have e5 := mbd 500000000000 816750 (a := cbNear z m s a b * k) (b := cbW z m) (by omega) (by omega)
  have e6 := mbd 1500000000000 250 (a := 30000 * r) (b := m * z) (by omega) (by omega)
  have e7 : 1 * 1 ≤ 30000 * r * (m * z) := Int.mul_le_mul (by omega) (by omega) (by omega) (by omega)
  unfold ckN ckD
  refine ⟨by omega, by omega, by omega, hn, by omega, by omega, by omega⟩
theorem cbE_zero {z m s r la a b k : Int} (h : cbE z m s r la a b k = 0) : BsOK z m s r la ∧ (-1000000 ≤ a ∧ b ≤ 1000000 ∧ a < b) ∧ (1 ≤ k ∧ k ≤ 1000) ∧ 2 ≤ m ∧ 0 < r := by
  unfold cbE at h
  split at h
  · rename_i h1
    have := h1.1.2.2.2.2.2.1
    split at h
    · rename_i h2
      split at h
      · omega
      · split at h
        · omega
        · exact ⟨h1.1, h1.2, h2, by omega, by omega⟩
    · omega
  · omega
def acp_sp : SpecSh := { args := [(.agg [(.int .i64 (.z 0)), (.int .i64 (.z 0)), (.int .i64 (.z 0)), (.int .i64 (.z 0)), (.int .i64 (.z 0))]), (.int .i64 (.z 0)), (.int .i64 (.z 0)), (.int .i64 (.z 0))], res := (.tup [(.agg [(.int .i64 (.z 0)), (.int .i64 (.z 0))]), (.int .i64 (.z 0))]), sh := [.i (some ((-9223372036854775808), 9223372036854775807)), .i (some ((-9223372036854775808), 9223372036854775807)), .i (some ((-9223372036854775808), 9223372036854775807))] }
set_option maxRecDepth 100000 in
def acp_tree : Tree :=
.call 13 [.b] [.i (.v 0), .i (.v 1), .i (.v 2), .i (.v 3), .i (.v 4)] <|
.ite (.v 8) (.ite (.cmp .le (.z (-1000000)) (.v 5)) (.ite (.cmp .le (.v 6) (.z 1000000)) (.ite (.not (.cmp .lt (.v 5) (.v 6))) (.ret (.tup [(.agg [(.int .i64 (.z 0)), (.int .i64 (.z 0))]), (.int .i64 (.z 1))])) <|
.ite (.cmp .le (.z 1) (.v 7)) (.ite (.not (.cmp .le (.v 7) (.z 1000))) (.ret (.tup [(.agg [(.int .i64 (.z 0)), (.int .i64 (.z 0))]), (.int .i64 (.z 3))])) <|
.ite (.not (.cmp .le (.z 2) (.v 1))) (.ret (.tup [(.agg [(.int .i64 (.z 0)), (.int .i64 (.z 0))]), (.int .i64 (.z 12))])) <|
.ite (.not (.cmp .lt (.z 0) (.v 3))) (.ret (.tup [(.agg [(.int .i64 (.z 0)), (.int .i64 (.z 0))]), (.int .i64 (.z 6))])) <|
.ite (.cmp .eq (.v 0) (.z 1)) (.lett (.sub (.v 1) (.z 1)) <|
.call 28 [.i (some (0, 32670)), .i (some (0, 3))] [.i (.z 3), .i (.z 2)] <|
.lett (.mulw .i64 (.v 10) (.v 9)) <|
.lett (.sub (.v 6) (.v 5)) <|
.lett (.mul (.v 13) (.v 7)) <|
.lett (.mulw .i64 (.z 60000) (.v 3)) <|
.call 29 [.i (some ((-9223372036854775808), 9223372036854775807)), .i (some ((-9223372036854775808), 9223372036854775807))] [.i (.v 14), .i (.v 12), .i (.v 15), .i (.z 0)] <|
.call 29 [.i (some ((-9223372036854775808), 9223372036854775807)), .i (some ((-9223372036854775808), 9223372036854775807))] [.i (.v 14), .i (.v 12), .i (.v 15), .i (.z 1)] <|
.ite (.not (.cmp .eq (.v 17) (.z 0))) (.ret (.tup [(.agg [(.int .i64 (.z 0)), (.int .i64 (.z 0))]), (.int .i64 (.v 17))])) <|
.ite (.not (.cmp .eq (.v 19) (.z 0))) (.ret (.tup [(.agg [(.int .i64 (.z 0)), (.int .i64 (.z 0))]), (.int .i64 (.v 19))])) <|
.ret (.tup [(.agg [(.int .i64 (.v 16)), (.int .i64 (.v 18))]), (.int .i64 (.z 0))])) <|
.call 28 [.i (some (0, 32670)), .i (some (0, 3))] [.i (.z 3), .i (.v 0)] <|
.lett (.mulw .i64 (.v 9) (.v 1)) <|
.lett (.sub (.v 6) (.v 5)) <|
.lett (.mul (.v 12) (.v 7)) <|
.lett (.mulw .i64 (.z 60000) (.v 3)) <|
.call 29 [.i (some ((-9223372036854775808), 9223372036854775807)), .i (some ((-9223372036854775808), 9223372036854775807))] [.i (.v 13), .i (.v 11), .i (.v 14), .i (.z 0)] <|
.call 29 [.i (some ((-9223372036854775808), 9223372036854775807)), .i (some ((-9223372036854775808), 9223372036854775807))] [.i (.v 13), .i (.v 11), .i (.v 14), .i (.z 1)] <|
.ite (.not (.cmp .eq (.v 16) (.z 0))) (.ret (.tup [(.agg [(.int .i64 (.z 0)), (.int .i64 (.z 0))]), (.int .i64 (.v 16))])) <|
.ite (.not (.cmp .eq (.v 18) (.z 0))) (.ret (.tup [(.agg [(.int .i64 (.z 0)), (.int .i64 (.z 0))]), (.int .i64 (.v 18))])) <|
.ret (.tup [(.agg [(.int .i64 (.v 15)), (.int .i64 (.v 17))]), (.int .i64 (.z 0))])) <|
.ret (.tup [(.agg [(.int .i64 (.z 0)), (.int .i64 (.z 0))]), (.int .i64 (.z 3))])) <|
.ret (.tup [(.agg [(.int .i64 (.z 0)), (.int .i64 (.z 0))]), (.int .i64 (.z 1))])) <|
.ret (.tup [(.agg [(.int .i64 (.z 0)), (.int .i64 (.z 0))]), (.int .i64 (.z 1))])) <|
.ret (.tup [(.agg [(.int .i64 (.z 0)), (.int .i64 (.z 0))]), (.int .i64 (.z 1))])
noncomputable def acp_cx : Ctx := { tys := tys, fns := fns, mets := mets, sps := [(13, bright_sp), (28, ffac_sp), (29, fmd_sp)], anns := [], trys := [(10, atold_try)] }
def acp_ivs : List (Option (Int × Int)) := [some ((-9223372036854775808), 9223372036854775807), some ((-9223372036854775808), 9223372036854775807), some ((-9223372036854775808), 9223372036854775807), some ((-9223372036854775808), 9223372036854775807), some ((-9223372036854775808), 9223372036854775807), some ((-9223372036854775808), 9223372036854775807), some ((-9223372036854775808), 9223372036854775807), some ((-9223372036854775808), 9223372036854775807)]
set_option maxRecDepth 100000 in
theorem acp_walk : runFn acp_cx 3000 4 Tryz.f4 acp_sp.args acp_ivs = acp_tree := by kernel_rfl
noncomputable def acp_M : Nat → SpecSem
  | 13 => bright_sem
  | 28 => ffac_sem
  | 29 => fmd_sem
  | _ => noSem
theorem acp_M13 : acp_M 13 = bright_sem := rfl
theorem acp_M28 : acp_M 28 = ffac_sem := rfl
theorem acp_M29 : acp_M 29 = fmd_sem := rfl
theorem acp_cxok : CxOK Tryz.prog acp_cx acp_M := ⟨tysOK, fnsOK, spCons bright_ok <| spCons ffac_ok <| spCons fmd_ok <| fun _ _ h => spNil h, mixedOK, trCons atold_ok <| fun _ _ h => trNil h, fun _ _ h => atNil h, metsOK⟩
set_option maxRecDepth 100000 in
set_option maxHeartbeats 8000000 in
theorem acp_den (R RP : Value → Prop) (F : Ex → St → Js → Env → Prop) (J : Js) (x0 : Int) (x1 : Int) (x2 : Int) (x3 : Int) (x4 : Int) (x5 : Int) (x6 : Int) (x7 : Int) : Tree.den acp_M R RP F acp_tree J [(.i x0), (.i x1), (.i x2), (.i x3), (.i x4), (.i x5), (.i x6), (.i x7)] = (
  (bright_sem.pre [(.i x0), (.i x1), (.i x2), (.i x3), (.i x4)]) ∧ (
((Cv.bool (Env.get (bright_sem.out [(.i x0), (.i x1), (.i x2), (.i x3), (.i x4)]) 0)) = true → ((Cmp.den .le (-1000000 : Int) x5) = true → ((Cmp.den .le x6 (1000000 : Int)) = true → ((!(Cmp.den .lt x5 x6)) = true → R (Value.tuple [(Value.agg [(Value.int .i64 (0 : Int)), (Value.int .i64 (0 : Int))].toArray), (Value.int .i64 (1 : Int))].toArray)) ∧ ((!(Cmp.den .lt x5 x6)) = false → ((Cmp.den .le (1 : Int) x7) = true → ((!(Cmp.den .le x7 (1000 : Int))) = true → R (Value.tuple [(Value.agg [(Value.int .i64 (0 : Int)), (Value.int .i64 (0 : Int))].toArray), (Value.int .i64 (3 : Int))].toArray)) ∧ ((!(Cmp.den .le x7 (1000 : Int))) = false → ((!(Cmp.den .le (2 : Int) x1)) = true → R (Value.tuple [(Value.agg [(Value.int .i64 (0 : Int)), (Value.int .i64 (0 : Int))].toArray), (Value.int .i64 (12 : Int))].toArray)) ∧ ((!(Cmp.den .le (2 : Int) x1)) = false → ((!(Cmp.den .lt (0 : Int) x3)) = true → R (Value.tuple [(Value.agg [(Value.int .i64 (0 : Int)), (Value.int .i64 (0 : Int))].toArray), (Value.int .i64 (6 : Int))].toArray)) ∧ ((!(Cmp.den .lt (0 : Int) x3)) = false → ((Cmp.den .eq x0 (1 : Int)) = true → ∀ x9 : Int, x9 = (x1 - (1 : Int)) →
(ffac_sem.pre [(.i (3 : Int)), (.i (2 : Int))]) ∧ (
∀ x10 : Int, x10 = (Cv.int (Env.get (ffac_sem.out [(.i (3 : Int)), (.i (2 : Int))]) 0)) → (0 : Int) ≤ x10 → x10 ≤ (32670 : Int) →
∀ x11 : Int, x11 = (Cv.int (Env.get (ffac_sem.out [(.i (3 : Int)), (.i (2 : Int))]) 1)) → (0 : Int) ≤ x11 → x11 ≤ (3 : Int) →
∀ x12 : Int, x12 = (IntKind.i64.wrap (x10 * x9)) →
∀ x13 : Int, x13 = (x6 - x5) →
∀ x14 : Int, x14 = (x13 * x7) →
∀ x15 : Int, x15 = (IntKind.i64.wrap ((60000 : Int) * x3)) →
(fmd_sem.pre [(.i x14), (.i x12), (.i x15), (.i (0 : Int))]) ∧ (
∀ x16 : Int, x16 = (Cv.int (Env.get (fmd_sem.out [(.i x14), (.i x12), (.i x15), (.i (0 : Int))]) 0)) → (-9223372036854775808 : Int) ≤ x16 → x16 ≤ (9223372036854775807 : Int) →
∀ x17 : Int, x17 = (Cv.int (Env.get (fmd_sem.out [(.i x14), (.i x12), (.i x15), (.i (0 : Int))]) 1)) → (-9223372036854775808 : Int) ≤ x17 → x17 ≤ (9223372036854775807 : Int) →
(fmd_sem.pre [(.i x14), (.i x12), (.i x15), (.i (1 : Int))]) ∧ (
∀ x18 : Int, x18 = (Cv.int (Env.get (fmd_sem.out [(.i x14), (.i x12), (.i x15), (.i (1 : Int))]) 0)) → (-9223372036854775808 : Int) ≤ x18 → x18 ≤ (9223372036854775807 : Int) →
∀ x19 : Int, x19 = (Cv.int (Env.get (fmd_sem.out [(.i x14), (.i x12), (.i x15), (.i (1 : Int))]) 1)) → (-9223372036854775808 : Int) ≤ x19 → x19 ≤ (9223372036854775807 : Int) →
((!(Cmp.den .eq x17 (0 : Int))) = true → R (Value.tuple [(Value.agg [(Value.int .i64 (0 : Int)), (Value.int .i64 (0 : Int))].toArray), (Value.int .i64 x17)].toArray)) ∧ ((!(Cmp.den .eq x17 (0 : Int))) = false → ((!(Cmp.den .eq x19 (0 : Int))) = true → R (Value.tuple [(Value.agg [(Value.int .i64 (0 : Int)), (Value.int .i64 (0 : Int))].toArray), (Value.int .i64 x19)].toArray)) ∧ ((!(Cmp.den .eq x19 (0 : Int))) = false → R (Value.tuple [(Value.agg [(Value.int .i64 x16), (Value.int .i64 x18)].toArray), (Value.int .i64 (0 : Int))].toArray))))))) ∧ ((Cmp.den .eq x0 (1 : Int)) = false → (ffac_sem.pre [(.i (3 : Int)), (.i x0)]) ∧ (
∀ x9 : Int, x9 = (Cv.int (Env.get (ffac_sem.out [(.i (3 : Int)), (.i x0)]) 0)) → (0 : Int) ≤ x9 → x9 ≤ (32670 : Int) →
∀ x10 : Int, x10 = (Cv.int (Env.get (ffac_sem.out [(.i (3 : Int)), (.i x0)]) 1)) → (0 : Int) ≤ x10 → x10 ≤ (3 : Int) →
∀ x11 : Int, x11 = (IntKind.i64.wrap (x9 * x1)) →
∀ x12 : Int, x12 = (x6 - x5) →
∀ x13 : Int, x13 = (x12 * x7) →
∀ x14 : Int, x14 = (IntKind.i64.wrap ((60000 : Int) * x3)) →
(fmd_sem.pre [(.i x13), (.i x11), (.i x14), (.i (0 : Int))]) ∧ (
∀ x15 : Int, x15 = (Cv.int (Env.get (fmd_sem.out [(.i x13), (.i x11), (.i x14), (.i (0 : Int))]) 0)) → (-9223372036854775808 : Int) ≤ x15 → x15 ≤ (9223372036854775807 : Int) →
∀ x16 : Int, x16 = (Cv.int (Env.get (fmd_sem.out [(.i x13), (.i x11), (.i x14), (.i (0 : Int))]) 1)) → (-9223372036854775808 : Int) ≤ x16 → x16 ≤ (9223372036854775807 : Int) →
(fmd_sem.pre [(.i x13), (.i x11), (.i x14), (.i (1 : Int))]) ∧ (
∀ x17 : Int, x17 = (Cv.int (Env.get (fmd_sem.out [(.i x13), (.i x11), (.i x14), (.i (1 : Int))]) 0)) → (-9223372036854775808 : Int) ≤ x17 → x17 ≤ (9223372036854775807 : Int) →
∀ x18 : Int, x18 = (Cv.int (Env.get (fmd_sem.out [(.i x13), (.i x11), (.i x14), (.i (1 : Int))]) 1)) → (-9223372036854775808 : Int) ≤ x18 → x18 ≤ (9223372036854775807 : Int) →
((!(Cmp.den .eq x16 (0 : Int))) = true → R (Value.tuple [(Value.agg [(Value.int .i64 (0 : Int)), (Value.int .i64 (0 : Int))].toArray), (Value.int .i64 x16)].toArray)) ∧ ((!(Cmp.den .eq x16 (0 : Int))) = false → ((!(Cmp.den .eq x18 (0 : Int))) = true → R (Value.tuple [(Value.agg [(Value.int .i64 (0 : Int)), (Value.int .i64 (0 : Int))].toArray), (Value.int .i64 x18)].toArray)) ∧ ((!(Cmp.den .eq x18 (0 : Int))) = false → R (Value.tuple [(Value.agg [(Value.int .i64 x15), (Value.int .i64 x17)].toArray), (Value.int .i64 (0 : Int))].toArray))))))))))) ∧ ((Cmp.den .le (1 : Int) x7) = false → R (Value.tuple [(Value.agg [(Value.int .i64 (0 : Int)), (Value.int .i64 (0 : Int))].toArray), (Value.int .i64 (3 : Int))].toArray)))) ∧ ((Cmp.den .le x6 (1000000 : Int)) = false → R (Value.tuple [(Value.agg [(Value.int .i64 (0 : Int)), (Value.int .i64 (0 : Int))].toArray), (Value.int .i64 (1 : Int))].toArray))) ∧ ((Cmp.den .le (-1000000 : Int) x5) = false → R (Value.tuple [(Value.agg [(Value.int .i64 (0 : Int)), (Value.int .i64 (0 : Int))].toArray), (Value.int .i64 (1 : Int))].toArray))) ∧ ((Cv.bool (Env.get (bright_sem.out [(.i x0), (.i x1), (.i x2), (.i x3), (.i x4)]) 0)) = false → R (Value.tuple [(Value.agg [(Value.int .i64 (0 : Int)), (Value.int .i64 (0 : Int))].toArray), (Value.int .i64 (1 : Int))].toArray)))) := by kernel_rfl

def acp_sem : SpecSem := { pre := fun cs => match cs with | [.i z, .i m, .i s, .i r, .i la, .i a, .i b, .i k] => IsI z ∧ IsI m ∧ IsI s ∧ IsI r ∧ IsI la ∧ IsI a ∧ IsI b ∧ IsI k | _ => False, out := fun cs => match cs with | [.i z, .i m, .i s, .i r, .i la, .i a, .i b, .i k] => [.i (if cbE z m s r la a b k = 0 then roundZ (cpN z m a b k) (cpD r) 0 else 0), .i (if cbE z m s r la a b k = 0 then roundZ (cpN z m a b k) (cpD r) 1 else 0), .i (cbE z m s r la a b k)] | _ => [] }
set_option maxRecDepth 10000 in
set_option maxHeartbeats 16000000 in
theorem acp_ok : SpecOK Tryz.prog 4 acp_sp acp_sem := by
  refine spec_of_tree acp_cxok Tryz.func4 (by kernel_rfl) (by kernel_rfl) acp_walk rfl ?_
  intro cs hpre
  match cs, hpre with
  | [.i z, .i m, .i s, .i r, .i la, .i a, .i b, .i k], ⟨j_z, j_m, j_s, j_r, j_la, j_a, j_b, j_k⟩ =>
    have h_z := j_z
    unfold IsI at h_z
    have h_m := j_m
    unfold IsI at h_m
    have h_s := j_s
    unfold IsI at h_s
    have h_r := j_r
    unfold IsI at h_r
    have h_la := j_la
    unfold IsI at h_la
    have h_a := j_a
    unfold IsI at h_a
    have h_b := j_b
    unfold IsI at h_b
    have h_k := j_k
    unfold IsI at h_k
    refine ⟨rfl, IvsB.ok (by simp only [acp_ivs, IvsB, Cv.int, and_true] <;> omega), ?_, ?_⟩
    · simp only [acp_sem, acp_sp, Fits, and_true]
      have he := cbE_rng z m s r la a b k
      by_cases h : cbE z m s r la a b k = 0
      · obtain ⟨c1, c2, c3, c4, c5⟩ := cbE_zero h
        have hr := cp_rng (z := z) c1.2.1 c4 c2 c3
        have hD : 0 < cpD r := by unfold cpD; omega
        have r0 := rz_rng (m := 0) (Or.inl rfl) hD hr.2
        have r1 := rz_rng (m := 1) (Or.inr rfl) hD hr.2
        simp only [if_pos h]
        omega
      · simp only [if_neg h]; omega
    · rw [acp_den]
      rcases Decidable.em (BsOK z m s r la) with c1 | c1
      · have q := c1.1
        have qm := c1.2.1
        have qr := c1.2.2.2.2.2.1
        have hb := bs_bd c1
        have n1 : (m < 2) = ¬ (2 ≤ m) := propext ⟨fun h => by omega, fun h => by omega⟩
        have n2 : (r = 0) = ¬ (0 < r) := propext ⟨fun h => by omega, fun h => by omega⟩
        have n3 : (r ≤ 0) = ¬ (0 < r) := propext ⟨fun h => by omega, fun h => by omega⟩
        have n4 : (b ≤ a) = ¬ (a < b) := propext ⟨fun h => by omega, fun h => by omega⟩
        have n5 : (a < -1000000) = ¬ (-1000000 ≤ a) := propext ⟨fun h => by omega, fun h => by omega⟩
        have n6 : (1000000 < b) = ¬ (b ≤ 1000000) := propext ⟨fun h => by omega, fun h => by omega⟩
        have n7 : (k < 1) = ¬ (1 ≤ k) := propext ⟨fun h => by omega, fun h => by omega⟩
        have n8 : (1000 < k) = ¬ (k ≤ 1000) := propext ⟨fun h => by omega, fun h => by omega⟩
        have g1 : ((1 : Int) = 0) = False := by simp
        have g2 : ((3 : Int) = 0) = False := by simp
        have g3 : ((6 : Int) = 0) = False := by simp
        have g4 : ((12 : Int) = 0) = False := by simp
        by_cases hall : (-1000000 ≤ a ∧ b ≤ 1000000 ∧ a < b) ∧ (1 ≤ k ∧ k ≤ 1000) ∧ 2 ≤ m ∧ 0 < r
        · obtain ⟨c2, c3, c4, c5⟩ := hall
          have he : cbE z m s r la a b k = 0 := by unfold cbE; rw [if_pos ⟨c1, c2⟩, if_pos c3, if_neg (show ¬ m < 2 by omega), if_neg (show ¬ r = 0 by omega)]
          have w := cbW_rng (z := z) qm c4
          have hr := cp_rng (z := z) qm c4 c2 c3
          have hD : 0 < cpD r := by unfold cpD; omega
          obtain ⟨d1, d2, d3⟩ := md_pos (m := 0) (Or.inl rfl) hD (a := (b - a) * k) (b := cbW z m) hr.2 (by omega)
          obtain ⟨d4, d5, d6⟩ := md_pos (m := 1) (Or.inr rfl) hD (a := (b - a) * k) (b := cbW z m) hr.2 (by omega)
          clear d1 d4
          have k3 : IsI 3 := ⟨by omega, by omega⟩
          have k2 : IsI 2 := ⟨by omega, by omega⟩
          have k1 : IsI 1 := ⟨by omega, by omega⟩
          have k0 : IsI 0 := ⟨by omega, by omega⟩
          have w2 : IntKind.i64.wrap (60000 * r) = cpD r := w64 (by omega) (by omega)
          have x0 : (b - a) * k * cbW z m = cpN z m a b k := rfl
          have w3 : IsI ((b - a) * k) := ⟨by omega, by omega⟩
          have w4 : IsI (cbW z m) := ⟨by omega, by omega⟩
          have w5 : IsI (cpD r) := by unfold cpD; exact ⟨by omega, by omega⟩
          rw [x0] at d2 d5
          by_cases c5z : z = 1
          · have v1 : facV 3 2 = ftab 3 2 := by decide
            have x1 : bwM z m = m - 1 := by unfold bwM; rw [if_pos c5z]
            have x2 : bwK z = 2 := by unfold bwK; rw [if_pos c5z]
            have x3 : ftab 3 2 * (m - 1) = cbW z m := by unfold cbW; rw [x1, x2]
            have w1 : IntKind.i64.wrap (cbW z m) = cbW z m := w64 (by omega) (by omega)
            have o1 : (z = 1) = True := eq_true c5z
            simp only [acp_sem, acp_sp, bright_sem, ffac_sem, fmd_sem, acp_den, bright_sem, ffac_sem, fmd_sem, Tree.den, LE.den, Cv.list, placeA, List.getElem?_cons_zero, List.getElem?_cons_succ, IE.den, BE.den, At.den, CA.den, Env.get, Cv.int, Cv.bool, List.cons_append, List.nil_append, List.map_cons, List.map_nil, bindRes, bindEq, Fits, SV.den, denL, place, placeL, eq_t, eq_f, lt_t, lt_f, le_t, le_f, beq_iff_eq, beq_eq_false_iff_ne, ne_eq, reduceCtorEq, b_dec, decide_eq_true_eq, decide_eq_false_iff_not, Bool.not_eq_false', Bool.or_eq_true, Bool.or_eq_false_iff, Bool.and_eq_false_iff, true_iff, false_iff, Bool.false_eq_true, Bool.not_eq_true', Bool.and_eq_true, Bool.not_true, Bool.not_false, List.cons.injEq, Cv.i.injEq, Cv.b.injEq, and_true, true_and, agg_inj, tup_inj, Value.int.injEq, Value.bool.injEq, j_z, j_m, j_s, j_r, j_la, c1, n1, n2, n3, n4, n5, n6, n7, n8, c2.1, c2.2.1, c2.2.2, c3.1, c3.2, c4, c5, o1, k0, k1, k2, k3, v1, x3, w1, w2, w3, w4, w5, d2, d3, d5, d6, he, forall_eq, eq_self, if_true, if_false, true_and, and_true, false_and, and_false, true_or, or_true, false_or, or_false, true_iff, iff_true, false_iff, iff_false, not_true_eq_false, not_false_eq_true, true_implies, false_implies, implies_true, forall_const, decide_true, decide_false, reduceCtorEq]
          · have z2 : 2 ≤ z ∧ z ≤ 10 := by omega
            have v1 : facV 3 z = ftab 3 z := by unfold facV; rw [if_pos (by omega), if_pos z2]
            have x1 : bwM z m = m := by unfold bwM; rw [if_neg c5z]
            have x2 : bwK z = z := by unfold bwK; rw [if_neg c5z]
            have x3 : ftab 3 z * m = cbW z m := by unfold cbW; rw [x1, x2]
            have w1 : IntKind.i64.wrap (cbW z m) = cbW z m := w64 (by omega) (by omega)
            have o1 : (z = 1) = False := eq_false c5z
            simp only [acp_sem, acp_sp, bright_sem, ffac_sem, fmd_sem, acp_den, bright_sem, ffac_sem, fmd_sem, Tree.den, LE.den, Cv.list, placeA, List.getElem?_cons_zero, List.getElem?_cons_succ, IE.den, BE.den, At.den, CA.den, Env.get, Cv.int, Cv.bool, List.cons_append, List.nil_append, List.map_cons, List.map_nil, bindRes, bindEq, Fits, SV.den, denL, place, placeL, eq_t, eq_f, lt_t, lt_f, le_t, le_f, beq_iff_eq, beq_eq_false_iff_ne, ne_eq, reduceCtorEq, b_dec, decide_eq_true_eq, decide_eq_false_iff_not, Bool.not_eq_false', Bool.or_eq_true, Bool.or_eq_false_iff, Bool.and_eq_false_iff, true_iff, false_iff, Bool.false_eq_true, Bool.not_eq_true', Bool.and_eq_true, Bool.not_true, Bool.not_false, List.cons.injEq, Cv.i.injEq, Cv.b.injEq, and_true, true_and, agg_inj, tup_inj, Value.int.injEq, Value.bool.injEq, j_z, j_m, j_s, j_r, j_la, c1, n1, n2, n3, n4, n5, n6, n7, n8, c2.1, c2.2.1, c2.2.2, c3.1, c3.2, c4, c5, o1, k0, k1, k2, k3, v1, x3, w1, w2, w3, w4, w5, d2, d3, d5, d6, he, forall_eq, eq_self, if_true, if_false, true_and, and_true, false_and, and_false, true_or, or_true, false_or, or_false, true_iff, iff_true, false_iff, iff_false, not_true_eq_false, not_false_eq_true, true_implies, false_implies, implies_true, forall_const, decide_true, decide_false, reduceCtorEq]
        · rcases Decidable.em (-1000000 ≤ a) with c2 | c2
          rotate_left
          · simp only [acp_sem, acp_sp, bright_sem, cbE, acp_den, bright_sem, ffac_sem, fmd_sem, Tree.den, LE.den, Cv.list, placeA, List.getElem?_cons_zero, List.getElem?_cons_succ, IE.den, BE.den, At.den, CA.den, Env.get, Cv.int, Cv.bool, List.cons_append, List.nil_append, List.map_cons, List.map_nil, bindRes, bindEq, Fits, SV.den, denL, place, placeL, eq_t, eq_f, lt_t, lt_f, le_t, le_f, beq_iff_eq, beq_eq_false_iff_ne, ne_eq, reduceCtorEq, b_dec, decide_eq_true_eq, decide_eq_false_iff_not, Bool.not_eq_false', Bool.or_eq_true, Bool.or_eq_false_iff, Bool.and_eq_false_iff, true_iff, false_iff, Bool.false_eq_true, Bool.not_eq_true', Bool.and_eq_true, Bool.not_true, Bool.not_false, List.cons.injEq, Cv.i.injEq, Cv.b.injEq, and_true, true_and, agg_inj, tup_inj, Value.int.injEq, Value.bool.injEq, j_z, j_m, j_s, j_r, j_la, c1, n5, c2, g1, forall_eq, eq_self, if_true, if_false, true_and, and_true, false_and, and_false, true_or, or_true, false_or, or_false, true_iff, iff_true, false_iff, iff_false, not_true_eq_false, not_false_eq_true, true_implies, false_implies, implies_true, forall_const, decide_true, decide_false, reduceCtorEq]
          rcases Decidable.em (b ≤ 1000000) with c3 | c3
          rotate_left
          · simp only [acp_sem, acp_sp, bright_sem, cbE, acp_den, bright_sem, ffac_sem, fmd_sem, Tree.den, LE.den, Cv.list, placeA, List.getElem?_cons_zero, List.getElem?_cons_succ, IE.den, BE.den, At.den, CA.den, Env.get, Cv.int, Cv.bool, List.cons_append, List.nil_append, List.map_cons, List.map_nil, bindRes, bindEq, Fits, SV.den, denL, place, placeL, eq_t, eq_f, lt_t, lt_f, le_t, le_f, beq_iff_eq, beq_eq_false_iff_ne, ne_eq, reduceCtorEq, b_dec, decide_eq_true_eq, decide_eq_false_iff_not, Bool.not_eq_false', Bool.or_eq_true, Bool.or_eq_false_iff, Bool.and_eq_false_iff, true_iff, false_iff, Bool.false_eq_true, Bool.not_eq_true', Bool.and_eq_true, Bool.not_true, Bool.not_false, List.cons.injEq, Cv.i.injEq, Cv.b.injEq, and_true, true_and, agg_inj, tup_inj, Value.int.injEq, Value.bool.injEq, j_z, j_m, j_s, j_r, j_la, c1, n5, n6, c2, c3, g1, forall_eq, eq_self, if_true, if_false, true_and, and_true, false_and, and_false, true_or, or_true, false_or, or_false, true_iff, iff_true, false_iff, iff_false, not_true_eq_false, not_false_eq_true, true_implies, false_implies, implies_true, forall_const, decide_true, decide_false, reduceCtorEq]
          rcases Decidable.em (a < b) with c4 | c4
          rotate_left
          · simp only [acp_sem, acp_sp, bright_sem, cbE, acp_den, bright_sem, ffac_sem, fmd_sem, Tree.den, LE.den, Cv.list, placeA, List.getElem?_cons_zero, List.getElem?_cons_succ, IE.den, BE.den, At.den, CA.den, Env.get, Cv.int, Cv.bool, List.cons_append, List.nil_append, List.map_cons, List.map_nil, bindRes, bindEq, Fits, SV.den, denL, place, placeL, eq_t, eq_f, lt_t, lt_f, le_t, le_f, beq_iff_eq, beq_eq_false_iff_ne, ne_eq, reduceCtorEq, b_dec, decide_eq_true_eq, decide_eq_false_iff_not, Bool.not_eq_false', Bool.or_eq_true, Bool.or_eq_false_iff, Bool.and_eq_false_iff, true_iff, false_iff, Bool.false_eq_true, Bool.not_eq_true', Bool.and_eq_true, Bool.not_true, Bool.not_false, List.cons.injEq, Cv.i.injEq, Cv.b.injEq, and_true, true_and, agg_inj, tup_inj, Value.int.injEq, Value.bool.injEq, j_z, j_m, j_s, j_r, j_la, c1, n4, n5, n6, c2, c3, c4, g1, forall_eq, eq_self, if_true, if_false, true_and, and_true, false_and, and_false, true_or, or_true, false_or, or_false, true_iff, iff_true, false_iff, iff_false, not_true_eq_false, not_false_eq_true, true_implies, false_implies, implies_true, forall_const, decide_true, decide_false, reduceCtorEq]
          rcases Decidable.em (1 ≤ k) with c5 | c5
          rotate_left
          · simp only [acp_sem, acp_sp, bright_sem, cbE, acp_den, bright_sem, ffac_sem, fmd_sem, Tree.den, LE.den, Cv.list, placeA, List.getElem?_cons_zero, List.getElem?_cons_succ, IE.den, BE.den, At.den, CA.den, Env.get, Cv.int, Cv.bool, List.cons_append, List.nil_append, List.map_cons, List.map_nil, bindRes, bindEq, Fits, SV.den, denL, place, placeL, eq_t, eq_f, lt_t, lt_f, le_t, le_f, beq_iff_eq, beq_eq_false_iff_ne, ne_eq, reduceCtorEq, b_dec, decide_eq_true_eq, decide_eq_false_iff_not, Bool.not_eq_false', Bool.or_eq_true, Bool.or_eq_false_iff, Bool.and_eq_false_iff, true_iff, false_iff, Bool.false_eq_true, Bool.not_eq_true', Bool.and_eq_true, Bool.not_true, Bool.not_false, List.cons.injEq, Cv.i.injEq, Cv.b.injEq, and_true, true_and, agg_inj, tup_inj, Value.int.injEq, Value.bool.injEq, j_z, j_m, j_s, j_r, j_la, c1, n4, n5, n6, n7, c2, c3, c4, c5, g2, forall_eq, eq_self, if_true, if_false, true_and, and_true, false_and, and_false, true_or, or_true, false_or, or_false, true_iff, iff_true, false_iff, iff_false, not_true_eq_false, not_false_eq_true, true_implies, false_implies, implies_true, forall_const, decide_true, decide_false, reduceCtorEq]
          rcases Decidable.em (k ≤ 1000) with c6 | c6
          rotate_left
          · simp only [acp_sem, acp_sp, bright_sem, cbE, acp_den, bright_sem, ffac_sem, fmd_sem, Tree.den, LE.den, Cv.list, placeA, List.getElem?_cons_zero, List.getElem?_cons_succ, IE.den, BE.den, At.den, CA.den, Env.get, Cv.int, Cv.bool, List.cons_append, List.nil_append, List.map_cons, List.map_nil, bindRes, bindEq, Fits, SV.den, denL, place, placeL, eq_t, eq_f, lt_t, lt_f, le_t, le_f, beq_iff_eq, beq_eq_false_iff_ne, ne_eq, reduceCtorEq, b_dec, decide_eq_true_eq, decide_eq_false_iff_not, Bool.not_eq_false', Bool.or_eq_true, Bool.or_eq_false_iff, Bool.and_eq_false_iff, true_iff, false_iff, Bool.false_eq_true, Bool.not_eq_true', Bool.and_eq_true, Bool.not_true, Bool.not_false, List.cons.injEq, Cv.i.injEq, Cv.b.injEq, and_true, true_and, agg_inj, tup_inj, Value.int.injEq, Value.bool.injEq, j_z, j_m, j_s, j_r, j_la, c1, n4, n5, n6, n7, n8, c2, c3, c4, c5, c6, g2, forall_eq, eq_self, if_true, if_false, true_and, and_true, false_and, and_false, true_or, or_true, false_or, or_false, true_iff, iff_true, false_iff, iff_false, not_true_eq_false, not_false_eq_true, true_implies, false_implies, implies_true, forall_const, decide_true, decide_false, reduceCtorEq]
          rcases Decidable.em (2 ≤ m) with c7 | c7
          rotate_left
          · simp only [acp_sem, acp_sp, bright_sem, cbE, acp_den, bright_sem, ffac_sem, fmd_sem, Tree.den, LE.den, Cv.list, placeA, List.getElem?_cons_zero, List.getElem?_cons_succ, IE.den, BE.den, At.den, CA.den, Env.get, Cv.int, Cv.bool, List.cons_append, List.nil_append, List.map_cons, List.map_nil, bindRes, bindEq, Fits, SV.den, denL, place, placeL, eq_t, eq_f, lt_t, lt_f, le_t, le_f, beq_iff_eq, beq_eq_false_iff_ne, ne_eq, reduceCtorEq, b_dec, decide_eq_true_eq, decide_eq_false_iff_not, Bool.not_eq_false', Bool.or_eq_true, Bool.or_eq_false_iff, Bool.and_eq_false_iff, true_iff, false_iff, Bool.false_eq_true, Bool.not_eq_true', Bool.and_eq_true, Bool.not_true, Bool.not_false, List.cons.injEq, Cv.i.injEq, Cv.b.injEq, and_true, true_and, agg_inj, tup_inj, Value.int.injEq, Value.bool.injEq, j_z, j_m, j_s, j_r, j_la, c1, n1, n4, n5, n6, n7, n8, c2, c3, c4, c5, c6, c7, g4, forall_eq, eq_self, if_true, if_false, true_and, and_true, false_and, and_false, true_or, or_true, false_or, or_false, true_iff, iff_true, false_iff, iff_false, not_true_eq_false, not_false_eq_true, true_implies, false_implies, implies_true, forall_const, decide_true, decide_false, reduceCtorEq]
          rcases Decidable.em (0 < r) with c8 | c8
          rotate_left
          · simp only [acp_sem, acp_sp, bright_sem, cbE, acp_den, bright_sem, ffac_sem, fmd_sem, Tree.den, LE.den, Cv.list, placeA, List.getElem?_cons_zero, List.getElem?_cons_succ, IE.den, BE.den, At.den, CA.den, Env.get, Cv.int, Cv.bool, List.cons_append, List.nil_append, List.map_cons, List.map_nil, bindRes, bindEq, Fits, SV.den, denL, place, placeL, eq_t, eq_f, lt_t, lt_f, le_t, le_f, beq_iff_eq, beq_eq_false_iff_ne, ne_eq, reduceCtorEq, b_dec, decide_eq_true_eq, decide_eq_false_iff_not, Bool.not_eq_false', Bool.or_eq_true, Bool.or_eq_false_iff, Bool.and_eq_false_iff, true_iff, false_iff, Bool.false_eq_true, Bool.not_eq_true', Bool.and_eq_true, Bool.not_true, Bool.not_false, List.cons.injEq, Cv.i.injEq, Cv.b.injEq, and_true, true_and, agg_inj, tup_inj, Value.int.injEq, Value.bool.injEq, j_z, j_m, j_s, j_r, j_la, c1, n1, n2, n3, n4, n5, n6, n7, n8, c2, c3, c4, c5, c6, c7, c8, g3, forall_eq, eq_self, if_true, if_false, true_and, and_true, false_and, and_false, true_or, or_true, false_or, or_false, true_iff, iff_true, false_iff, iff_false, not_true_eq_false, not_false_eq_true, true_implies, false_implies, implies_true, forall_const, decide_true, decide_false, reduceCtorEq]
          exact absurd ⟨⟨c2, c3, c4⟩, ⟨c5, c6⟩, c7, c8⟩ hall
      · have he : cbE z m s r la a b k = 1 := by unfold cbE; rw [if_neg (fun h => c1 h.1)]
        have g1 : ((1 : Int) = 0) = False := by simp
        simp only [acp_sem, acp_sp, bright_sem, acp_den, bright_sem, ffac_sem, fmd_sem, Tree.den, LE.den, Cv.list, placeA, List.getElem?_cons_zero, List.getElem?_cons_succ, IE.den, BE.den, At.den, CA.den, Env.get, Cv.int, Cv.bool, List.cons_append, List.nil_append, List.map_cons, List.map_nil, bindRes, bindEq, Fits, SV.den, denL, place, placeL, eq_t, eq_f, lt_t, lt_f, le_t, le_f, beq_iff_eq, beq_eq_false_iff_ne, ne_eq, reduceCtorEq, b_dec, decide_eq_true_eq, decide_eq_false_iff_not, Bool.not_eq_false', Bool.or_eq_true, Bool.or_eq_false_iff, Bool.and_eq_false_iff, true_iff, false_iff, Bool.false_eq_true, Bool.not_eq_true', Bool.and_eq_true, Bool.not_true, Bool.not_false, List.cons.injEq, Cv.i.injEq, Cv.b.injEq, and_true, true_and, agg_inj, tup_inj, Value.int.injEq, Value.bool.injEq, j_z, j_m, j_s, j_r, j_la, c1, he, g1, forall_eq, eq_self, if_true, if_false, true_and, and_true, false_and, and_false, true_or, or_true, false_or, or_false, true_iff, iff_true, false_iff, iff_false, not_true_eq_false, not_false_eq_true, true_implies, false_implies, implies_true, forall_const, decide_true, decide_false, reduceCtorEq]
def acpk_sp : SpecSh := { args := [(.agg [(.int .i64 (.z 0)), (.int .i64 (.z 0)), (.int .i64 (.z 0)), (.int .i64 (.z 0)), (.int .i64 (.z 0))]), (.int .i64 (.z 0)), (.int .i64 (.z 0)), (.int .i64 (.z 0))], res := (.tup [(.agg [(.int .i64 (.z 0)), (.int .i64 (.z 0))]), (.int .i64 (.z 0))]), sh := [.i (some ((-9223372036854775808), 9223372036854775807)), .i (some ((-9223372036854775808), 9223372036854775807)), .i (some ((-9223372036854775808), 9223372036854775807))] }
set_option maxRecDepth 100000 in
def acpk_tree : Tree :=
.call 13 [.b] [.i (.v 0), .i (.v 1), .i (.v 2), .i (.v 3), .i (.v 4)] <|
.ite (.v 8) (.ite (.cmp .le (.z (-1000000)) (.v 5)) (.ite (.cmp .le (.v 6) (.z 1000000)) (.ite (.not (.cmp .lt (.v 5) (.v 6))) (.ret (.tup [(.agg [(.int .i64 (.z 0)), (.int .i64 (.z 0))]), (.int .i64 (.z 1))])) <|
.ite (.cmp .le (.z 1) (.v 7)) (.ite (.not (.cmp .le (.v 7) (.z 1000))) (.ret (.tup [(.agg [(.int .i64 (.z 0)), (.int .i64 (.z 0))]), (.int .i64 (.z 3))])) <|
.ite (.not (.cmp .le (.z 2) (.v 1))) (.ret (.tup [(.agg [(.int .i64 (.z 0)), (.int .i64 (.z 0))]), (.int .i64 (.z 12))])) <|
.ite (.not (.cmp .lt (.z 0) (.v 3))) (.ret (.tup [(.agg [(.int .i64 (.z 0)), (.int .i64 (.z 0))]), (.int .i64 (.z 6))])) <|
.ite (.cmp .eq (.v 0) (.z 1)) (.lett (.sub (.v 1) (.z 1)) <|
.call 28 [.i (some (0, 32670)), .i (some (0, 3))] [.i (.z 3), .i (.z 2)] <|
.lett (.mulw .i64 (.v 10) (.v 9)) <|
.lett (.mul (.v 1) (.v 0)) <|
.lett (.mulw .i64 (.v 6) (.v 13)) <|
.lett (.subw .i64 (.v 14) (.v 2)) <|
.lett (.mulw .i64 (.v 5) (.v 13)) <|
.lett (.subw .i64 (.v 2) (.v 16)) <|
.lett (.ite (.cmp .lt (.v 17) (.v 15)) (.v 17) (.v 15)) <|
.lett (.mulw .i64 (.v 18) (.v 7)) <|
.lett (.mulw .i64 (.z 30000) (.v 3)) <|
.lett (.mulw .i64 (.v 20) (.v 13)) <|
.call 29 [.i (some ((-9223372036854775808), 9223372036854775807)), .i (some ((-9223372036854775808), 9223372036854775807))] [.i (.v 19), .i (.v 12), .i (.v 21), .i (.z 0)] <|
.call 29 [.i (some ((-9223372036854775808), 9223372036854775807)), .i (some ((-9223372036854775808), 9223372036854775807))] [.i (.v 19), .i (.v 12), .i (.v 21), .i (.z 1)] <|
.ite (.not (.cmp .eq (.v 23) (.z 0))) (.ret (.tup [(.agg [(.int .i64 (.z 0)), (.int .i64 (.z 0))]), (.int .i64 (.v 23))])) <|
.ite (.not (.cmp .eq (.v 25) (.z 0))) (.ret (.tup [(.agg [(.int .i64 (.z 0)), (.int .i64 (.z 0))]), (.int .i64 (.v 25))])) <|
.ret (.tup [(.agg [(.int .i64 (.v 22)), (.int .i64 (.v 24))]), (.int .i64 (.z 0))])) <|
.call 28 [.i (some (0, 32670)), .i (some (0, 3))] [.i (.z 3), .i (.v 0)] <|
.lett (.mulw .i64 (.v 9) (.v 1)) <|
.lett (.mulw .i64 (.v 1) (.v 0)) <|
.lett (.mulw .i64 (.v 6) (.v 12)) <|
.lett (.subw .i64 (.v 13) (.v 2)) <|
.lett (.mulw .i64 (.v 5) (.v 12)) <|
.lett (.subw .i64 (.v 2) (.v 15)) <|
.lett (.ite (.cmp .lt (.v 16) (.v 14)) (.v 16) (.v 14)) <|
.lett (.mulw .i64 (.v 17) (.v 7)) <|
.lett (.mulw .i64 (.z 30000) (.v 3)) <|
.lett (.mulw .i64 (.v 19) (.v 12)) <|
.call 29 [.i (some ((-9223372036854775808), 9223372036854775807)), .i (some ((-9223372036854775808), 9223372036854775807))] [.i (.v 18), .i (.v 11), .i (.v 20), .i (.z 0)] <|
.call 29 [.i (some ((-9223372036854775808), 9223372036854775807)), .i (some ((-9223372036854775808), 9223372036854775807))] [.i (.v 18), .i (.v 11), .i (.v 20), .i (.z 1)] <|
.ite (.not (.cmp .eq (.v 22) (.z 0))) (.ret (.tup [(.agg [(.int .i64 (.z 0)), (.int .i64 (.z 0))]), (.int .i64 (.v 22))])) <|
.ite (.not (.cmp .eq (.v 24) (.z 0))) (.ret (.tup [(.agg [(.int .i64 (.z 0)), (.int .i64 (.z 0))]), (.int .i64 (.v 24))])) <|
.ret (.tup [(.agg [(.int .i64 (.v 21)), (.int .i64 (.v 23))]), (.int .i64 (.z 0))])) <|
.ret (.tup [(.agg [(.int .i64 (.z 0)), (.int .i64 (.z 0))]), (.int .i64 (.z 3))])) <|
.ret (.tup [(.agg [(.int .i64 (.z 0)), (.int .i64 (.z 0))]), (.int .i64 (.z 1))])) <|
.ret (.tup [(.agg [(.int .i64 (.z 0)), (.int .i64 (.z 0))]), (.int .i64 (.z 1))])) <|
.ret (.tup [(.agg [(.int .i64 (.z 0)), (.int .i64 (.z 0))]), (.int .i64 (.z 1))])
noncomputable def acpk_cx : Ctx := { tys := tys, fns := fns, mets := mets, sps := [(13, bright_sp), (28, ffac_sp), (29, fmd_sp)], anns := [], trys := [(10, atold_try)] }
def acpk_ivs : List (Option (Int × Int)) := [some ((-9223372036854775808), 9223372036854775807), some ((-9223372036854775808), 9223372036854775807), some ((-9223372036854775808), 9223372036854775807), some ((-9223372036854775808), 9223372036854775807), some ((-9223372036854775808), 9223372036854775807), some ((-9223372036854775808), 9223372036854775807), some ((-9223372036854775808), 9223372036854775807), some ((-9223372036854775808), 9223372036854775807)]
set_option maxRecDepth 100000 in
theorem acpk_walk : runFn acpk_cx 3000 5 Tryz.f5 acpk_sp.args acpk_ivs = acpk_tree := by kernel_rfl
noncomputable def acpk_M : Nat → SpecSem
  | 13 => bright_sem
  | 28 => ffac_sem
  | 29 => fmd_sem
  | _ => noSem
theorem acpk_M13 : acpk_M 13 = bright_sem := rfl
theorem acpk_M28 : acpk_M 28 = ffac_sem := rfl
theorem acpk_M29 : acpk_M 29 = fmd_sem := rfl
theorem acpk_cxok : CxOK Tryz.prog acpk_cx acpk_M := ⟨tysOK, fnsOK, spCons bright_ok <| spCons ffac_ok <| spCons fmd_ok <| fun _ _ h => spNil h, mixedOK, trCons atold_ok <| fun _ _ h => trNil h, fun _ _ h => atNil h, metsOK⟩
set_option maxRecDepth 100000 in
set_option maxHeartbeats 8000000 in
theorem acpk_den (R RP : Value → Prop) (F : Ex → St → Js → Env → Prop) (J : Js) (x0 : Int) (x1 : Int) (x2 : Int) (x3 : Int) (x4 : Int) (x5 : Int) (x6 : Int) (x7 : Int) : Tree.den acpk_M R RP F acpk_tree J [(.i x0), (.i x1), (.i x2), (.i x3), (.i x4), (.i x5), (.i x6), (.i x7)] = (
  (bright_sem.pre [(.i x0), (.i x1), (.i x2), (.i x3), (.i x4)]) ∧ (
((Cv.bool (Env.get (bright_sem.out [(.i x0), (.i x1), (.i x2), (.i x3), (.i x4)]) 0)) = true → ((Cmp.den .le (-1000000 : Int) x5) = true → ((Cmp.den .le x6 (1000000 : Int)) = true → ((!(Cmp.den .lt x5 x6)) = true → R (Value.tuple [(Value.agg [(Value.int .i64 (0 : Int)), (Value.int .i64 (0 : Int))].toArray), (Value.int .i64 (1 : Int))].toArray)) ∧ ((!(Cmp.den .lt x5 x6)) = false → ((Cmp.den .le (1 : Int) x7) = true → ((!(Cmp.den .le x7 (1000 : Int))) = true → R (Value.tuple [(Value.agg [(Value.int .i64 (0 : Int)), (Value.int .i64 (0 : Int))].toArray), (Value.int .i64 (3 : Int))].toArray)) ∧ ((!(Cmp.den .le x7 (1000 : Int))) = false → ((!(Cmp.den .le (2 : Int) x1)) = true → R (Value.tuple [(Value.agg [(Value.int .i64 (0 : Int)), (Value.int .i64 (0 : Int))].toArray), (Value.int .i64 (12 : Int))].toArray)) ∧ ((!(Cmp.den .le (2 : Int) x1)) = false → ((!(Cmp.den .lt (0 : Int) x3)) = true → R (Value.tuple [(Value.agg [(Value.int .i64 (0 : Int)), (Value.int .i64 (0 : Int))].toArray), (Value.int .i64 (6 : Int))].toArray)) ∧ ((!(Cmp.den .lt (0 : Int) x3)) = false → ((Cmp.den .eq x0 (1 : Int)) = true → ∀ x9 : Int, x9 = (x1 - (1 : Int)) →
(ffac_sem.pre [(.i (3 : Int)), (.i (2 : Int))]) ∧ (
∀ x10 : Int, x10 = (Cv.int (Env.get (ffac_sem.out [(.i (3 : Int)), (.i (2 : Int))]) 0)) → (0 : Int) ≤ x10 → x10 ≤ (32670 : Int) →
∀ x11 : Int, x11 = (Cv.int (Env.get (ffac_sem.out [(.i (3 : Int)), (.i (2 : Int))]) 1)) → (0 : Int) ≤ x11 → x11 ≤ (3 : Int) →
∀ x12 : Int, x12 = (IntKind.i64.wrap (x10 * x9)) →
∀ x13 : Int, x13 = (x1 * x0) →
∀ x14 : Int, x14 = (IntKind.i64.wrap (x6 * x13)) →
∀ x15 : Int, x15 = (IntKind.i64.wrap (x14 - x2)) →
∀ x16 : Int, x16 = (IntKind.i64.wrap (x5 * x13)) →
∀ x17 : Int, x17 = (IntKind.i64.wrap (x2 - x16)) →
∀ x18 : Int, x18 = (if (Cmp.den .lt x17 x15) = true then x17 else x15) →
∀ x19 : Int, x19 = (IntKind.i64.wrap (x18 * x7)) →
∀ x20 : Int, x20 = (IntKind.i64.wrap ((30000 : Int) * x3)) →
∀ x21 : Int, x21 = (IntKind.i64.wrap (x20 * x13)) →
(fmd_sem.pre [(.i x19), (.i x12), (.i x21), (.i (0 : Int))]) ∧ (
∀ x22 : Int, x22 = (Cv.int (Env.get (fmd_sem.out [(.i x19), (.i x12), (.i x21), (.i (0 : Int))]) 0)) → (-9223372036854775808 : Int) ≤ x22 → x22 ≤ (9223372036854775807 : Int) →
∀ x23 : Int, x23 = (Cv.int (Env.get (fmd_sem.out [(.i x19), (.i x12), (.i x21), (.i (0 : Int))]) 1)) → (-9223372036854775808 : Int) ≤ x23 → x23 ≤ (9223372036854775807 : Int) →
(fmd_sem.pre [(.i x19), (.i x12), (.i x21), (.i (1 : Int))]) ∧ (
∀ x24 : Int, x24 = (Cv.int (Env.get (fmd_sem.out [(.i x19), (.i x12), (.i x21), (.i (1 : Int))]) 0)) → (-9223372036854775808 : Int) ≤ x24 → x24 ≤ (9223372036854775807 : Int) →
∀ x25 : Int, x25 = (Cv.int (Env.get (fmd_sem.out [(.i x19), (.i x12), (.i x21), (.i (1 : Int))]) 1)) → (-9223372036854775808 : Int) ≤ x25 → x25 ≤ (9223372036854775807 : Int) →
((!(Cmp.den .eq x23 (0 : Int))) = true → R (Value.tuple [(Value.agg [(Value.int .i64 (0 : Int)), (Value.int .i64 (0 : Int))].toArray), (Value.int .i64 x23)].toArray)) ∧ ((!(Cmp.den .eq x23 (0 : Int))) = false → ((!(Cmp.den .eq x25 (0 : Int))) = true → R (Value.tuple [(Value.agg [(Value.int .i64 (0 : Int)), (Value.int .i64 (0 : Int))].toArray), (Value.int .i64 x25)].toArray)) ∧ ((!(Cmp.den .eq x25 (0 : Int))) = false → R (Value.tuple [(Value.agg [(Value.int .i64 x22), (Value.int .i64 x24)].toArray), (Value.int .i64 (0 : Int))].toArray))))))) ∧ ((Cmp.den .eq x0 (1 : Int)) = false → (ffac_sem.pre [(.i (3 : Int)), (.i x0)]) ∧ (
∀ x9 : Int, x9 = (Cv.int (Env.get (ffac_sem.out [(.i (3 : Int)), (.i x0)]) 0)) → (0 : Int) ≤ x9 → x9 ≤ (32670 : Int) →
∀ x10 : Int, x10 = (Cv.int (Env.get (ffac_sem.out [(.i (3 : Int)), (.i x0)]) 1)) → (0 : Int) ≤ x10 → x10 ≤ (3 : Int) →
∀ x11 : Int, x11 = (IntKind.i64.wrap (x9 * x1)) →
∀ x12 : Int, x12 = (IntKind.i64.wrap (x1 * x0)) →
∀ x13 : Int, x13 = (IntKind.i64.wrap (x6 * x12)) →
∀ x14 : Int, x14 = (IntKind.i64.wrap (x13 - x2)) →
∀ x15 : Int, x15 = (IntKind.i64.wrap (x5 * x12)) →
∀ x16 : Int, x16 = (IntKind.i64.wrap (x2 - x15)) →
∀ x17 : Int, x17 = (if (Cmp.den .lt x16 x14) = true then x16 else x14) →
∀ x18 : Int, x18 = (IntKind.i64.wrap (x17 * x7)) →
∀ x19 : Int, x19 = (IntKind.i64.wrap ((30000 : Int) * x3)) →
∀ x20 : Int, x20 = (IntKind.i64.wrap (x19 * x12)) →
(fmd_sem.pre [(.i x18), (.i x11), (.i x20), (.i (0 : Int))]) ∧ (
∀ x21 : Int, x21 = (Cv.int (Env.get (fmd_sem.out [(.i x18), (.i x11), (.i x20), (.i (0 : Int))]) 0)) → (-9223372036854775808 : Int) ≤ x21 → x21 ≤ (9223372036854775807 : Int) →
∀ x22 : Int, x22 = (Cv.int (Env.get (fmd_sem.out [(.i x18), (.i x11), (.i x20), (.i (0 : Int))]) 1)) → (-9223372036854775808 : Int) ≤ x22 → x22 ≤ (9223372036854775807 : Int) →
(fmd_sem.pre [(.i x18), (.i x11), (.i x20), (.i (1 : Int))]) ∧ (
∀ x23 : Int, x23 = (Cv.int (Env.get (fmd_sem.out [(.i x18), (.i x11), (.i x20), (.i (1 : Int))]) 0)) → (-9223372036854775808 : Int) ≤ x23 → x23 ≤ (9223372036854775807 : Int) →
∀ x24 : Int, x24 = (Cv.int (Env.get (fmd_sem.out [(.i x18), (.i x11), (.i x20), (.i (1 : Int))]) 1)) → (-9223372036854775808 : Int) ≤ x24 → x24 ≤ (9223372036854775807 : Int) →
((!(Cmp.den .eq x22 (0 : Int))) = true → R (Value.tuple [(Value.agg [(Value.int .i64 (0 : Int)), (Value.int .i64 (0 : Int))].toArray), (Value.int .i64 x22)].toArray)) ∧ ((!(Cmp.den .eq x22 (0 : Int))) = false → ((!(Cmp.den .eq x24 (0 : Int))) = true → R (Value.tuple [(Value.agg [(Value.int .i64 (0 : Int)), (Value.int .i64 (0 : Int))].toArray), (Value.int .i64 x24)].toArray)) ∧ ((!(Cmp.den .eq x24 (0 : Int))) = false → R (Value.tuple [(Value.agg [(Value.int .i64 x21), (Value.int .i64 x23)].toArray), (Value.int .i64 (0 : Int))].toArray))))))))))) ∧ ((Cmp.den .le (1 : Int) x7) = false → R (Value.tuple [(Value.agg [(Value.int .i64 (0 : Int)), (Value.int .i64 (0 : Int))].toArray), (Value.int .i64 (3 : Int))].toArray)))) ∧ ((Cmp.den .le x6 (1000000 : Int)) = false → R (Value.tuple [(Value.agg [(Value.int .i64 (0 : Int)), (Value.int .i64 (0 : Int))].toArray), (Value.int .i64 (1 : Int))].toArray))) ∧ ((Cmp.den .le (-1000000 : Int) x5) = false → R (Value.tuple [(Value.agg [(Value.int .i64 (0 : Int)), (Value.int .i64 (0 : Int))].toArray), (Value.int .i64 (1 : Int))].toArray))) ∧ ((Cv.bool (Env.get (bright_sem.out [(.i x0), (.i x1), (.i x2), (.i x3), (.i x4)]) 0)) = false → R (Value.tuple [(Value.agg [(Value.int .i64 (0 : Int)), (Value.int .i64 (0 : Int))].toArray), (Value.int .i64 (1 : Int))].toArray)))) := by kernel_rfl

def acpk_sem : SpecSem := { pre := fun cs => match cs with | [.i z, .i m, .i s, .i r, .i la, .i a, .i b, .i k] => IsI z ∧ IsI m ∧ IsI s ∧ IsI r ∧ IsI la ∧ IsI a ∧ IsI b ∧ IsI k | _ => False, out := fun cs => match cs with | [.i z, .i m, .i s, .i r, .i la, .i a, .i b, .i k] => [.i (if cbE z m s r la a b k = 0 then roundZ (ckN z m s a b k) (ckD z m r) 0 else 0), .i (if cbE z m s r la a b k = 0 then roundZ (ckN z m s a b k) (ckD z m r) 1 else 0), .i (cbE z m s r la a b k)] | _ => [] }
set_option maxRecDepth 10000 in
set_option maxHeartbeats 16000000 in
theorem acpk_ok : SpecOK Tryz.prog 5 acpk_sp acpk_sem := by
  refine spec_of_tree acpk_cxok Tryz.func5 (by kernel_rfl) (by kernel_rfl) acpk_walk rfl ?_
  intro cs hpre
  match cs, hpre with
  | [.i z, .i m, .i s, .i r, .i la, .i a, .i b, .i k], ⟨j_z, j_m, j_s, j_r, j_la, j_a, j_b, j_k⟩ =>
    have h_z := j_z
    unfold IsI at h_z
    have h_m := j_m
    unfold IsI at h_m
    have h_s := j_s
    unfold IsI at h_s
    have h_r := j_r
    unfold IsI at h_r
    have h_la := j_la
    unfold IsI at h_la
    have h_a := j_a
    unfold IsI at h_a
    have h_b := j_b
    unfold IsI at h_b
    have h_k := j_k
    unfold IsI at h_k
    refine ⟨rfl, IvsB.ok (by simp only [acpk_ivs, IvsB, Cv.int, and_true] <;> omega), ?_, ?_⟩
    · simp only [acpk_sem, acpk_sp, Fits, and_true]
      have he := cbE_rng z m s r la a b k
      by_cases h : cbE z m s r la a b k = 0
      · obtain ⟨c1, c2, c3, c4, c5⟩ := cbE_zero h
        have hr := ck_rng c1 c4 c5 c2 c3
        have hD : 0 < ckD z m r := by omega
        have r0 := rz_rng (m := 0) (Or.inl rfl) hD hr.2.2.2.2.2.1
        have r1 := rz_rng (m := 1) (Or.inr rfl) hD hr.2.2.2.2.2.1
        simp only [if_pos h]
        omega
      · simp only [if_neg h]; omega
    · rw [acpk_den]
      rcases Decidable.em (BsOK z m s r la) with c1 | c1
      · have q := c1.1
        have qm := c1.2.1
        have qr := c1.2.2.2.2.2.1
        have hb := bs_bd c1
        have n1 : (m < 2) = ¬ (2 ≤ m) := propext ⟨fun h => by omega, fun h => by omega⟩
        have n2 : (r = 0) = ¬ (0 < r) := propext ⟨fun h => by omega, fun h => by omega⟩
        have n3 : (r ≤ 0) = ¬ (0 < r) := propext ⟨fun h => by omega, fun h => by omega⟩
        have n4 : (b ≤ a) = ¬ (a < b) := propext ⟨fun h => by omega, fun h => by omega⟩
        have n5 : (a < -1000000) = ¬ (-1000000 ≤ a) := propext ⟨fun h => by omega, fun h => by omega⟩
        have n6 : (1000000 < b) = ¬ (b ≤ 1000000) := propext ⟨fun h => by omega, fun h => by omega⟩
        have n7 : (k < 1) = ¬ (1 ≤ k) := propext ⟨fun h => by omega, fun h => by omega⟩
        have n8 : (1000 < k) = ¬ (k ≤ 1000) := propext ⟨fun h => by omega, fun h => by omega⟩
        have g1 : ((1 : Int) = 0) = False := by simp
        have g2 : ((3 : Int) = 0) = False := by simp
        have g3 : ((6 : Int) = 0) = False := by simp
        have g4 : ((12 : Int) = 0) = False := by simp
        by_cases hall : (-1000000 ≤ a ∧ b ≤ 1000000 ∧ a < b) ∧ (1 ≤ k ∧ k ≤ 1000) ∧ 2 ≤ m ∧ 0 < r
        · obtain ⟨c2, c3, c4, c5⟩ := hall
          have he : cbE z m s r la a b k = 0 := by unfold cbE; rw [if_pos ⟨c1, c2⟩, if_pos c3, if_neg (show ¬ m < 2 by omega), if_neg (show ¬ r = 0 by omega)]
          have w := cbW_rng (z := z) qm c4
          have hr := ck_rng c1 c4 c5 c2 c3
          have hD : 0 < ckD z m r := by omega
          obtain ⟨d1, d2, d3⟩ := md_pos (m := 0) (Or.inl rfl) hD (a := cbNear z m s a b * k) (b := cbW z m) hr.2.2.2.2.2.1 (by omega)
          obtain ⟨d4, d5, d6⟩ := md_pos (m := 1) (Or.inr rfl) hD (a := cbNear z m s a b * k) (b := cbW z m) hr.2.2.2.2.2.1 (by omega)
          clear d1 d4
          have k3 : IsI 3 := ⟨by omega, by omega⟩
          have k2 : IsI 2 := ⟨by omega, by omega⟩
          have k1 : IsI 1 := ⟨by omega, by omega⟩
          have k0 : IsI 0 := ⟨by omega, by omega⟩
          have w2 : IntKind.i64.wrap (30000 * r) = 30000 * r := w64 (by omega) (by omega)
          have w6 : IntKind.i64.wrap (30000 * r * (m * z)) = ckD z m r := w64 (by unfold ckD at hr; omega) (by unfold ckD at hr; omega)
          have w7 : IntKind.i64.wrap (m * z) = m * z := w64 (by omega) (by omega)
          have w8 : IntKind.i64.wrap (b * (m * z)) = b * (m * z) := w64 (by omega) (by omega)
          have w9 : IntKind.i64.wrap (a * (m * z)) = a * (m * z) := w64 (by omega) (by omega)
          have w10 : IntKind.i64.wrap (b * (m * z) - s) = b * (m * z) - s := w64 (by omega) (by omega)
          have w11 : IntKind.i64.wrap (s - a * (m * z)) = s - a * (m * z) := w64 (by omega) (by omega)
          have w12 : (if s - a * (m * z) < b * (m * z) - s then s - a * (m * z) else b * (m * z) - s) = cbNear z m s a b := rfl
          have w13 : IntKind.i64.wrap (cbNear z m s a b * k) = cbNear z m s a b * k := w64 (by omega) (by omega)
          have x0 : cbNear z m s a b * k * cbW z m = ckN z m s a b k := rfl
          have w3 : IsI (cbNear z m s a b * k) := ⟨by omega, by omega⟩
          have w4 : IsI (cbW z m) := ⟨by omega, by omega⟩
          have w5 : IsI (ckD z m r) := ⟨by omega, by omega⟩
          rw [x0] at d2 d5
          by_cases c5z : z = 1
          · have v1 : facV 3 2 = ftab 3 2 := by decide
            have x1 : bwM z m = m - 1 := by unfold bwM; rw [if_pos c5z]
            have x2 : bwK z = 2 := by unfold bwK; rw [if_pos c5z]
            have x3 : ftab 3 2 * (m - 1) = cbW z m := by unfold cbW; rw [x1, x2]
            have w1 : IntKind.i64.wrap (cbW z m) = cbW z m := w64 (by omega) (by omega)
            have o1 : (z = 1) = True := eq_true c5z
            simp only [acpk_sem, acpk_sp, bright_sem, ffac_sem, fmd_sem, acpk_den, bright_sem, ffac_sem, fmd_sem, Tree.den, LE.den, Cv.list, placeA, List.getElem?_cons_zero, List.getElem?_cons_succ, IE.den, BE.den, At.den, CA.den, Env.get, Cv.int, Cv.bool, List.cons_append, List.nil_append, List.map_cons, List.map_nil, bindRes, bindEq, Fits, SV.den, denL, place, placeL, eq_t, eq_f, lt_t, lt_f, le_t, le_f, beq_iff_eq, beq_eq_false_iff_ne, ne_eq, reduceCtorEq, b_dec, decide_eq_true_eq, decide_eq_false_iff_not, Bool.not_eq_false', Bool.or_eq_true, Bool.or_eq_false_iff, Bool.and_eq_false_iff, true_iff, false_iff, Bool.false_eq_true, Bool.not_eq_true', Bool.and_eq_true, Bool.not_true, Bool.not_false, List.cons.injEq, Cv.i.injEq, Cv.b.injEq, and_true, true_and, agg_inj, tup_inj, Value.int.injEq, Value.bool.injEq, j_z, j_m, j_s, j_r, j_la, c1, n1, n2, n3, n4, n5, n6, n7, n8, c2.1, c2.2.1, c2.2.2, c3.1, c3.2, c4, c5, o1, k0, k1, k2, k3, v1, x3, w1, w2, w3, w4, w5, w6, w7, w8, w9, w10, w11, w12, w13, d2, d3, d5, d6, he, forall_eq, eq_self, if_true, if_false, true_and, and_true, false_and, and_false, true_or, or_true, false_or, or_false, true_iff, iff_true, false_iff, iff_false, not_true_eq_false, not_false_eq_true, true_implies, false_implies, implies_true, forall_const, decide_true, decide_false, reduceCtorEq]
          · have z2 : 2 ≤ z ∧ z ≤ 10 := by omega
            have v1 : facV 3 z = ftab 3 z := by unfold facV; rw [if_pos (by omega), if_pos z2]
            have x1 : bwM z m = m := by unfold bwM; rw [if_neg c5z]
            have x2 : bwK z = z := by unfold bwK; rw [if_neg c5z]
            have x3 : ftab 3 z * m = cbW z m := by unfold cbW; rw [x1, x2]
            have w1 : IntKind.i64.wrap (cbW z m) = cbW z m := w64 (by omega) (by omega)
            have o1 : (z = 1) = False := eq_false c5z
            simp only [acpk_sem, acpk_sp, bright_sem, ffac_sem, fmd_sem, acpk_den, bright_sem, ffac_sem, fmd_sem, Tree.den, LE.den, Cv.list, placeA, List.getElem?_cons_zero, List.getElem?_cons_succ, IE.den, BE.den, At.den, CA.den, Env.get, Cv.int, Cv.bool, List.cons_append, List.nil_append, List.map_cons, List.map_nil, bindRes, bindEq, Fits, SV.den, denL, place, placeL, eq_t, eq_f, lt_t, lt_f, le_t, le_f, beq_iff_eq, beq_eq_false_iff_ne, ne_eq, reduceCtorEq, b_dec, decide_eq_true_eq, decide_eq_false_iff_not, Bool.not_eq_false', Bool.or_eq_true, Bool.or_eq_false_iff, Bool.and_eq_false_iff, true_iff, false_iff, Bool.false_eq_true, Bool.not_eq_true', Bool.and_eq_true, Bool.not_true, Bool.not_false, List.cons.injEq, Cv.i.injEq, Cv.b.injEq, and_true, true_and, agg_inj, tup_inj, Value.int.injEq, Value.bool.injEq, j_z, j_m, j_s, j_r, j_la, c1, n1, n2, n3, n4, n5, n6, n7, n8, c2.1, c2.2.1, c2.2.2, c3.1, c3.2, c4, c5, o1, k0, k1, k2, k3, v1, x3, w1, w2, w3, w4, w5, w6, w7, w8, w9, w10, w11, w12, w13, d2, d3, d5, d6, he, forall_eq, eq_self, if_true, if_false, true_and, and_true, false_and, and_false, true_or, or_true, false_or, or_false, true_iff, iff_true, false_iff, iff_false, not_true_eq_false, not_false_eq_true, true_implies, false_implies, implies_true, forall_const, decide_true, decide_false, reduceCtorEq]
        · rcases Decidable.em (-1000000 ≤ a) with c2 | c2
          rotate_left
          · simp only [acpk_sem, acpk_sp, bright_sem, cbE, acpk_den, bright_sem, ffac_sem, fmd_sem, Tree.den, LE.den, Cv.list, placeA, List.getElem?_cons_zero, List.getElem?_cons_succ, IE.den, BE.den, At.den, CA.den, Env.get, Cv.int, Cv.bool, List.cons_append, List.nil_append, List.map_cons, List.map_nil, bindRes, bindEq, Fits, SV.den, denL, place, placeL, eq_t, eq_f, lt_t, lt_f, le_t, le_f, beq_iff_eq, beq_eq_false_iff_ne, ne_eq, reduceCtorEq, b_dec, decide_eq_true_eq, decide_eq_false_iff_not, Bool.not_eq_false', Bool.or_eq_true, Bool.or_eq_false_iff, Bool.and_eq_false_iff, true_iff, false_iff, Bool.false_eq_true, Bool.not_eq_true', Bool.and_eq_true, Bool.not_true, Bool.not_false, List.cons.injEq, Cv.i.injEq, Cv.b.injEq, and_true, true_and, agg_inj, tup_inj, Value.int.injEq, Value.bool.injEq, j_z, j_m, j_s, j_r, j_la, c1, n5, c2, g1, forall_eq, eq_self, if_true, if_false, true_and, and_true, false_and, and_false, true_or, or_true, false_or, or_false, true_iff, iff_true, false_iff, iff_false, not_true_eq_false, not_false_eq_true, true_implies, false_implies, implies_true, forall_const, decide_true, decide_false, reduceCtorEq]
          rcases Decidable.em (b ≤ 1000000) with c3 | c3
          rotate_left
          · simp only [acpk_sem, acpk_sp, bright_sem, cbE, acpk_den, bright_sem, ffac_sem, fmd_sem, Tree.den, LE.den, Cv.list, placeA, List.getElem?_cons_zero, List.getElem?_cons_succ, IE.den, BE.den, At.den, CA.den, Env.get, Cv.int, Cv.bool, List.cons_append, List.nil_append, List.map_cons, List.map_nil, bindRes, bindEq, Fits, SV.den, denL, place, placeL, eq_t, eq_f, lt_t, lt_f, le_t, le_f, beq_iff_eq, beq_eq_false_iff_ne, ne_eq, reduceCtorEq, b_dec, decide_eq_true_eq, decide_eq_false_iff_not, Bool.not_eq_false', Bool.or_eq_true, Bool.or_eq_false_iff, Bool.and_eq_false_iff, true_iff, false_iff, Bool.false_eq_true, Bool.not_eq_true', Bool.and_eq_true, Bool.not_true, Bool.not_false, List.cons.injEq, Cv.i.injEq, Cv.b.injEq, and_true, true_and, agg_inj, tup_inj, Value.int.injEq, Value.bool.injEq, j_z, j_m, j_s, j_r, j_la, c1, n5, n6, c2, c3, g1, forall_eq, eq_self, if_true, if_false, true_and, and_true, false_and, and_false, true_or, or_true, false_or, or_false, true_iff, iff_true, false_iff, iff_false, not_true_eq_false, not_false_eq_true, true_implies, false_implies, implies_true, forall_const, decide_true, decide_false, reduceCtorEq]
          rcases Decidable.em (a < b) with c4 | c4
          rotate_left
          · simp only [acpk_sem, acpk_sp, bright_sem, cbE, acpk_den, bright_sem, ffac_sem, fmd_sem, Tree.den, LE.den, Cv.list, placeA, List.getElem?_cons_zero, List.getElem?_cons_succ, IE.den, BE.den, At.den, CA.den, Env.get, Cv.int, Cv.bool, List.cons_append, List.nil_append, List.map_cons, List.map_nil, bindRes, bindEq, Fits, SV.den, denL, place, placeL, eq_t, eq_f, lt_t, lt_f, le_t, le_f, beq_iff_eq, beq_eq_false_iff_ne, ne_eq, reduceCtorEq, b_dec, decide_eq_true_eq, decide_eq_false_iff_not, Bool.not_eq_false', Bool.or_eq_true, Bool.or_eq_false_iff, Bool.and_eq_false_iff, true_iff, false_iff, Bool.false_eq_true, Bool.not_eq_true', Bool.and_eq_true, Bool.not_true, Bool.not_false, List.cons.injEq, Cv.i.injEq, Cv.b.injEq, and_true, true_and, agg_inj, tup_inj, Value.int.injEq, Value.bool.injEq, j_z, j_m, j_s, j_r, j_la, c1, n4, n5, n6, c2, c3, c4, g1, forall_eq, eq_self, if_true, if_false, true_and, and_true, false_and, and_false, true_or, or_true, false_or, or_false, true_iff, iff_true, false_iff, iff_false, not_true_eq_false, not_false_eq_true, true_implies, false_implies, implies_true, forall_const, decide_true, decide_false, reduceCtorEq]
          rcases Decidable.em (1 ≤ k) with c5 | c5
          rotate_left
          · simp only [acpk_sem, acpk_sp, bright_sem, cbE, acpk_den, bright_sem, ffac_sem, fmd_sem, Tree.den, LE.den, Cv.list, placeA, List.getElem?_cons_zero, List.getElem?_cons_succ, IE.den, BE.den, At.den, CA.den, Env.get, Cv.int, Cv.bool, List.cons_append, List.nil_append, List.map_cons, List.map_nil, bindRes, bindEq, Fits, SV.den, denL, place, placeL, eq_t, eq_f, lt_t, lt_f, le_t, le_f, beq_iff_eq, beq_eq_false_iff_ne, ne_eq, reduceCtorEq, b_dec, decide_eq_true_eq, decide_eq_false_iff_not, Bool.not_eq_false', Bool.or_eq_true, Bool.or_eq_false_iff, Bool.and_eq_false_iff, true_iff, false_iff, Bool.false_eq_true, Bool.not_eq_true', Bool.and_eq_true, Bool.not_true, Bool.not_false, List.cons.injEq, Cv.i.injEq, Cv.b.injEq, and_true, true_and, agg_inj, tup_inj, Value.int.injEq, Value.bool.injEq, j_z, j_m, j_s, j_r, j_la, c1, n4, n5, n6, n7, c2, c3, c4, c5, g2, forall_eq, eq_self, if_true, if_false, true_and, and_true, false_and, and_false, true_or, or_true, false_or, or_false, true_iff, iff_true, false_iff, iff_false, not_true_eq_false, not_false_eq_true, true_implies, false_implies, implies_true, forall_const, decide_true, decide_false, reduceCtorEq]
          rcases Decidable.em (k ≤ 1000) with c6 | c6
          rotate_left
          · simp only [acpk_sem, acpk_sp, bright_sem, cbE, acpk_den, bright_sem, ffac_sem, fmd_sem, Tree.den, LE.den, Cv.list, placeA, List.getElem?_cons_zero, List.getElem?_cons_succ, IE.den, BE.den, At.den, CA.den, Env.get, Cv.int, Cv.bool, List.cons_append, List.nil_append, List.map_cons, List.map_nil, bindRes, bindEq, Fits, SV.den, denL, place, placeL, eq_t, eq_f, lt_t, lt_f, le_t, le_f, beq_iff_eq, beq_eq_false_iff_ne, ne_eq, reduceCtorEq, b_dec, decide_eq_true_eq, decide_eq_false_iff_not, Bool.not_eq_false', Bool.or_eq_true, Bool.or_eq_false_iff, Bool.and_eq_false_iff, true_iff, false_iff, Bool.false_eq_true, Bool.not_eq_true', Bool.and_eq_true, Bool.not_true, Bool.not_false, List.cons.injEq, Cv.i.injEq, Cv.b.injEq, and_true, true_and, agg_inj, tup_inj, Value.int.injEq, Value.bool.injEq, j_z, j_m, j_s, j_r, j_la, c1, n4, n5, n6, n7, n8, c2, c3, c4, c5, c6, g2, forall_eq, eq_self, if_true, if_false, true_and, and_true, false_and, and_false, true_or, or_true, false_or, or_false, true_iff, iff_true, false_iff, iff_false, not_true_eq_false, not_false_eq_true, true_implies, false_implies, implies_true, forall_const, decide_true, decide_false, reduceCtorEq]
          rcases Decidable.em (2 ≤ m) with c7 | c7
          rotate_left
          · simp only [acpk_sem, acpk_sp, bright_sem, cbE, acpk_den, bright_sem, ffac_sem, fmd_sem, Tree.den, LE.den, Cv.list, placeA, List.getElem?_cons_zero, List.getElem?_cons_succ, IE.den, BE.den, At.den, CA.den, Env.get, Cv.int, Cv.bool, List.cons_append, List.nil_append, List.map_cons, List.map_nil, bindRes, bindEq, Fits, SV.den, denL, place, placeL, eq_t, eq_f, lt_t, lt_f, le_t, le_f, beq_iff_eq, beq_eq_false_iff_ne, ne_eq, reduceCtorEq, b_dec, decide_eq_true_eq, decide_eq_false_iff_not, Bool.not_eq_false', Bool.or_eq_true, Bool.or_eq_false_iff, Bool.and_eq_false_iff, true_iff, false_iff, Bool.false_eq_true, Bool.not_eq_true', Bool.and_eq_true, Bool.not_true, Bool.not_false, List.cons.injEq, Cv.i.injEq, Cv.b.injEq, and_true, true_and, agg_inj, tup_inj, Value.int.injEq, Value.bool.injEq, j_z, j_m, j_s, j_r, j_la, c1, n1, n4, n5, n6, n7, n8, c2, c3, c4, c5, c6, c7, g4, forall_eq, eq_self, if_true, if_false, true_and, and_true, false_and, and_false, true_or, or_true, false_or, or_false, true_iff, iff_true, false_iff, iff_false, not_true_eq_false, not_false_eq_true, true_implies, false_implies, implies_true, forall_const, decide_true, decide_false, reduceCtorEq]
          rcases Decidable.em (0 < r) with c8 | c8
          rotate_left
          · simp only [acpk_sem, acpk_sp, bright_sem, cbE, acpk_den, bright_sem, ffac_sem, fmd_sem, Tree.den, LE.den, Cv.list, placeA, List.getElem?_cons_zero, List.getElem?_cons_succ, IE.den, BE.den, At.den, CA.den, Env.get, Cv.int, Cv.bool, List.cons_append, List.nil_append, List.map_cons, List.map_nil, bindRes, bindEq, Fits, SV.den, denL, place, placeL, eq_t, eq_f, lt_t, lt_f, le_t, le_f, beq_iff_eq, beq_eq_false_iff_ne, ne_eq, reduceCtorEq, b_dec, decide_eq_true_eq, decide_eq_false_iff_not, Bool.not_eq_false', Bool.or_eq_true, Bool.or_eq_false_iff, Bool.and_eq_false_iff, true_iff, false_iff, Bool.false_eq_true, Bool.not_eq_true', Bool.and_eq_true, Bool.not_true, Bool.not_false, List.cons.injEq, Cv.i.injEq, Cv.b.injEq, and_true, true_and, agg_inj, tup_inj, Value.int.injEq, Value.bool.injEq, j_z, j_m, j_s, j_r, j_la, c1, n1, n2, n3, n4, n5, n6, n7, n8, c2, c3, c4, c5, c6, c7, c8, g3, forall_eq, eq_self, if_true, if_false, true_and, and_true, false_and, and_false, true_or, or_true, false_or, or_false, true_iff, iff_true, false_iff, iff_false, not_true_eq_false, not_false_eq_true, true_implies, false_implies, implies_true, forall_const, decide_true, decide_false, reduceCtorEq]
          exact absurd ⟨⟨c2, c3, c4⟩, ⟨c5, c6⟩, c7, c8⟩ hall
      · have he : cbE z m s r la a b k = 1 := by unfold cbE; rw [if_neg (fun h => c1 h.1)]
        have g1 : ((1 : Int) = 0) = False := by simp
        simp only [acpk_sem, acpk_sp, bright_sem, acpk_den, bright_sem, ffac_sem, fmd_sem, Tree.den, LE.den, Cv.list, placeA, List.getElem?_cons_zero, List.getElem?_cons_succ, IE.den, BE.den, At.den, CA.den, Env.get, Cv.int, Cv.bool, List.cons_append, List.nil_append, List.map_cons, List.map_nil, bindRes, bindEq, Fits, SV.den, denL, place, placeL, eq_t, eq_f, lt_t, lt_f, le_t, le_f, beq_iff_eq, beq_eq_false_iff_ne, ne_eq, reduceCtorEq, b_dec, decide_eq_true_eq, decide_eq_false_iff_not, Bool.not_eq_false', Bool.or_eq_true, Bool.or_eq_false_iff, Bool.and_eq_false_iff, true_iff, false_iff, Bool.false_eq_true, Bool.not_eq_true', Bool.and_eq_true, Bool.not_true, Bool.not_false, List.cons.injEq, Cv.i.injEq, Cv.b.injEq, and_true, true_and, agg_inj, tup_inj, Value.int.injEq, Value.bool.injEq, j_z, j_m, j_s, j_r, j_la, c1, he, g1, forall_eq, eq_self, if_true, if_false, true_and, and_true, false_and, and_false, true_or, or_true, false_or, or_false, true_iff, iff_true, false_iff, iff_false, not_true_eq_false, not_false_eq_true, true_implies, false_implies, implies_true, forall_const, decide_true, decide_false, reduceCtorEq]
end Go.Proofs.YtglpelnaeipenaaGreat.X
