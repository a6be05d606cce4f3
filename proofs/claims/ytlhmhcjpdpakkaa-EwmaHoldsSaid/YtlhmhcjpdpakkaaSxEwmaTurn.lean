/-
  EwmaTurns tells true, for every input.
-/
import Derived.Test.YtlhmhcjpdpakkaaSxEwmaNar
namespace Go.Proofs.Ytlhmhcjpdpakkaa.X
open Go Go.SX Go.RowKit
set_option linter.unusedVariables false
set_option linter.unusedSimpArgs false




theorem tm_small {x m : Int} (h : -m < x ∧ x < m) : Int.tmod x m = x := by
  by_cases h0 : 0 ≤ x
  · exact Int.tmod_eq_of_lt h0 h.2
  · have := Int.tmod_eq_of_lt (a := -x) (b := m) (by omega) (by omega)
    rw [Int.neg_tmod] at this
    omega
theorem nx_neg1 (w x z : Int) : nxA w (-x) (-z) = -(nxB w x z) := by
  unfold nxA nxB
  rw [dn_pos (by omega), up_pos (by omega)]
  have e : w * -x * 1000 + (100 - w) * -z = -(w * x * 1000 + (100 - w) * z) := by rw [Int.mul_neg, Int.mul_neg, Int.neg_mul, Int.neg_add]
  rw [e]
  omega
theorem nx_neg2 (w x z : Int) : nxB w (-x) (-z) = -(nxA w x z) := by
  unfold nxA nxB
  rw [dn_pos (by omega), up_pos (by omega)]
  have e : w * -x * 1000 + (100 - w) * -z = -(w * x * 1000 + (100 - w) * z) := by rw [Int.mul_neg, Int.mul_neg, Int.neg_mul, Int.neg_add]
  rw [e, Int.neg_neg]
theorem nx_mid (w t : Int) : nxA w t (t * 1000) = t * 1000 ∧ nxB w t (t * 1000) = t * 1000 := by
  have e : w * t * 1000 + (100 - w) * (t * 1000) = 100 * (t * 1000) := by
    rw [← Int.mul_assoc (100 - w) t 1000, ← Int.add_mul, ← Int.add_mul, show w + (100 - w) = 100 by omega, Int.mul_assoc]
  unfold nxA nxB
  rw [dn_pos (by omega), up_pos (by omega), e]
  omega
theorem ve_neg (t zl zh lo hi : Int) : veZ (-t) (-zh) (-zl) lo hi = veZ t zl zh lo hi := by
  unfold veZ
  have e1 : (hi < -zh - -t * 1000) = (zh - t * 1000 < 0 - hi) := propext ⟨fun _ => by omega, fun _ => by omega⟩
  have e2 : (-zl - -t * 1000 < 0 - hi) = (hi < zl - t * 1000) := propext ⟨fun _ => by omega, fun _ => by omega⟩
  have e3 : (-zl - -t * 1000 ≤ lo) = (0 - lo ≤ zl - t * 1000) := propext ⟨fun _ => by omega, fun _ => by omega⟩
  have e4 : (0 - lo ≤ -zh - -t * 1000) = (zh - t * 1000 ≤ lo) := propext ⟨fun _ => by omega, fun _ => by omega⟩
  by_cases c1 : hi < zl - t * 1000 <;> by_cases c2 : zh - t * 1000 < 0 - hi <;> by_cases c3 : zh - t * 1000 ≤ lo <;> by_cases c4 : 0 - lo ≤ zl - t * 1000 <;> simp only [e1, e2, e3, e4, c1, c2, c3, c4, if_true, if_false]
theorem ve_mid {t lo hi : Int} (h : 0 ≤ lo ∧ 0 ≤ hi) : veZ t (t * 1000) (t * 1000) lo hi = 0 := by
  unfold veZ
  rw [if_neg (by omega), if_neg (by omega), if_pos (by omega), if_pos (by omega)]
theorem ew_neg {t w s n zl zh ql qh : Int} (h : ewOK t w s n zl zh ql qh) : ewOK (-t) w s n (-zh) (-zl) ql qh := by
  unfold ewOK szOK at h ⊢
  omega
theorem nx_le {w x zl zh : Int} (hw : 1 ≤ w ∧ w ≤ 99) (h : zl ≤ zh) : nxA w x zl ≤ nxB w x zh := by
  unfold nxA nxB
  have h1 : (100 - w) * zl ≤ (100 - w) * zh := Int.mul_le_mul_of_nonneg_left h (by omega)
  exact Int.le_trans (dn_mono (by omega) (by omega)) (up_dn0 (by omega)).1
def leturn_sp : SpecSh := { args := [(.int .i64 (.z 0)), (.int .i64 (.z 0)), (.int .i64 (.z 0)), (.lst 0)], res := (.bool .f), sh := [.b] }
set_option maxRecDepth 100000 in
def leturn_tree : Tree :=
.lett (.len 3) <|
.lett (.ite (.cmp .lt (.z 60) (.v 4)) (.z 60) (.v 4)) <|
.ite (.cmp .le (.v 5) (.v 4)) (.letl (.sub 3 (.z 0) (.v 5)) <|
.lett (.len 6) <|
.loop [.i (some (0, 60)), .l] [.i (.z 0), .l (.nil)] <|
.ite (.cmp .lt (.v 8) (.v 7)) (.lett (.nth 6 (.v 8)) <|
.lett (.ite (.cmp .lt (.v 10) (.z (-100000))) (.z (-100000)) (.v 10)) <|
.lett (.ite (.cmp .lt (.z 100000) (.v 11)) (.z 100000) (.v 11)) <|
.lett (.len 9) <|
.ite (.cmp .le (.v 13) (.z 100000)) (.letl (.app 9 [.v 12]) <|
.lett (.add (.v 8) (.z 1)) <|
.again 0 [.i (.v 15), .l (.v 14)]) <|
.bad 113) <|
.lett (.rem (.v 0) (.z 100001)) <|
.lett (.rem (.v 1) (.z 99)) <|
.lett (.add (.v 11) (.z 99)) <|
.lett (.mod (.v 12) (.z 99)) <|
.lett (.add (.z 1) (.v 13)) <|
.lett (.rem (.v 2) (.z 1000000)) <|
.lett (.add (.v 15) (.z 1000000)) <|
.lett (.mod (.v 16) (.z 1000000)) <|
.lett (.add (.z 1) (.v 17)) <|
.call 133 [.i (some ((-9223372036854775808), 9223372036854775807)), .i (some ((-9223372036854775808), 9223372036854775807)), .i (some ((-9223372036854775808), 9223372036854775807)), .i (some ((-9223372036854775808), 9223372036854775807)), .i (some ((-9223372036854775808), 9223372036854775807)), .i (some ((-9223372036854775808), 9223372036854775807)), .i (some ((-9223372036854775808), 9223372036854775807)), .i (some ((-9223372036854775808), 9223372036854775807)), .i (some ((-9223372036854775808), 9223372036854775807))] [.i (.v 10), .i (.v 14), .i (.v 18)] <|
.lett (.rem (.v 0) (.z 100001)) <|
.lett (.sub (.z 0) (.v 28)) <|
.loop [.i (some (0, 60)), .l] [.i (.z 0), .l (.nil)] <|
.lett (.rem (.v 29) (.z 100001)) <|
.lett (.rem (.v 1) (.z 99)) <|
.lett (.add (.v 33) (.z 99)) <|
.lett (.mod (.v 34) (.z 99)) <|
.lett (.add (.z 1) (.v 35)) <|
.lett (.rem (.v 2) (.z 1000000)) <|
.lett (.add (.v 37) (.z 1000000)) <|
.lett (.mod (.v 38) (.z 1000000)) <|
.lett (.add (.z 1) (.v 39)) <|
.call 133 [.i (some ((-9223372036854775808), 9223372036854775807)), .i (some ((-9223372036854775808), 9223372036854775807)), .i (some ((-9223372036854775808), 9223372036854775807)), .i (some ((-9223372036854775808), 9223372036854775807)), .i (some ((-9223372036854775808), 9223372036854775807)), .i (some ((-9223372036854775808), 9223372036854775807)), .i (some ((-9223372036854775808), 9223372036854775807)), .i (some ((-9223372036854775808), 9223372036854775807)), .i (some ((-9223372036854775808), 9223372036854775807))] [.i (.v 32), .i (.v 36), .i (.v 40)] <|
.ite (.not (.cmp .eq (.v 27) (.z 0))) (.ret (.bool .f)) <|
.ite (.not (.cmp .eq (.v 49) (.z 0))) (.ret (.bool .f)) <|
.call 70 [.b] [] <|
.ite (.not (.v 50)) (.ret (.bool .f)) <|
.lett (.len 9) <|
.loop [.i (some (0, 60)), .i (some ((-1000000), 1000000)), .i (some (1, 99)), .i (some (1, 1000000)), .i (some (0, 1000000000)), .i (some ((-1000000000), 1000000000)), .i (some ((-1000000000), 1000000000)), .i (some (0, 1000000)), .i (some (0, 1000000)), .i (some ((-1000000), 1000000)), .i (some (1, 99)), .i (some (1, 1000000)), .i (some (0, 1000000000)), .i (some ((-1000000000), 1000000000)), .i (some ((-1000000000), 1000000000)), .i (some (0, 1000000)), .i (some (0, 1000000)), .i (some ((-1000000), 1000000)), .i (some (1, 99)), .i (some (1, 1000000)), .i (some (0, 1000000000)), .i (some ((-1000000000), 1000000000)), .i (some ((-1000000000), 1000000000)), .i (some (0, 1000000)), .i (some (0, 1000000))] [.i (.z 0), .i (.v 19), .i (.v 20), .i (.v 21), .i (.v 22), .i (.v 23), .i (.v 24), .i (.v 25), .i (.v 26), .i (.v 41), .i (.v 42), .i (.v 43), .i (.v 44), .i (.v 45), .i (.v 46), .i (.v 47), .i (.v 48), .i (.v 19), .i (.v 20), .i (.v 21), .i (.v 22), .i (.v 23), .i (.v 24), .i (.v 25), .i (.v 26)] <|
.ite (.cmp .lt (.v 52) (.v 51)) (.lett (.nth 9 (.v 52)) <|
.call 71 [.i (some ((-9223372036854775808), 9223372036854775807)), .i (some ((-9223372036854775808), 9223372036854775807)), .i (some ((-9223372036854775808), 9223372036854775807)), .i (some ((-9223372036854775808), 9223372036854775807)), .i (some ((-9223372036854775808), 9223372036854775807)), .i (some ((-9223372036854775808), 9223372036854775807)), .i (some ((-9223372036854775808), 9223372036854775807)), .i (some ((-9223372036854775808), 9223372036854775807)), .b, .i (some ((-9223372036854775808), 9223372036854775807))] [.i (.v 53), .i (.v 54), .i (.v 55), .i (.v 56), .i (.v 57), .i (.v 58), .i (.v 59), .i (.v 60), .i (.v 77)] <|
.lett (.subw .i64 (.z 0) (.v 77)) <|
.call 71 [.i (some ((-9223372036854775808), 9223372036854775807)), .i (some ((-9223372036854775808), 9223372036854775807)), .i (some ((-9223372036854775808), 9223372036854775807)), .i (some ((-9223372036854775808), 9223372036854775807)), .i (some ((-9223372036854775808), 9223372036854775807)), .i (some ((-9223372036854775808), 9223372036854775807)), .i (some ((-9223372036854775808), 9223372036854775807)), .i (some ((-9223372036854775808), 9223372036854775807)), .b, .i (some ((-9223372036854775808), 9223372036854775807))] [.i (.v 61), .i (.v 62), .i (.v 63), .i (.v 64), .i (.v 65), .i (.v 66), .i (.v 67), .i (.v 68), .i (.v 88)] <|
.call 71 [.i (some ((-9223372036854775808), 9223372036854775807)), .i (some ((-9223372036854775808), 9223372036854775807)), .i (some ((-9223372036854775808), 9223372036854775807)), .i (some ((-9223372036854775808), 9223372036854775807)), .i (some ((-9223372036854775808), 9223372036854775807)), .i (some ((-9223372036854775808), 9223372036854775807)), .i (some ((-9223372036854775808), 9223372036854775807)), .i (some ((-9223372036854775808), 9223372036854775807)), .b, .i (some ((-9223372036854775808), 9223372036854775807))] [.i (.v 69), .i (.v 70), .i (.v 71), .i (.v 72), .i (.v 73), .i (.v 74), .i (.v 75), .i (.v 76), .i (.v 69)] <|
.ite (.not (.cmp .eq (.v 87) (.z 0))) (.ret (.bool .f)) <|
.ite (.not (.cmp .eq (.v 98) (.z 0))) (.ret (.bool .f)) <|
.ite (.not (.cmp .eq (.v 108) (.z 0))) (.ret (.bool .f)) <|
.ite (.not (.eqv (.v 86) (.v 97))) (.ret (.bool .f)) <|
.lett (.subw .i64 (.z 0) (.v 94)) <|
.ite (.not (.cmp .eq (.v 82) (.v 109))) (.ret (.bool .f)) <|
.lett (.subw .i64 (.z 0) (.v 93)) <|
.ite (.not (.cmp .eq (.v 83) (.v 110))) (.ret (.bool .f)) <|
.ite (.not (.and (.cmp .eq (.v 84) (.v 95)) (.cmp .eq (.v 85) (.v 96)))) (.ret (.bool .f)) <|
.ite (.not (.and (.cmp .eq (.v 103) (.v 73)) (.cmp .eq (.v 104) (.v 74)))) (.ret (.bool .f)) <|
.call 78 [.i (some ((-9223372036854775808), 9223372036854775807)), .i (some ((-9223372036854775808), 9223372036854775807))] [.i (.v 78), .i (.v 79), .i (.v 80), .i (.v 81), .i (.v 82), .i (.v 83), .i (.v 84), .i (.v 85)] <|
.call 78 [.i (some ((-9223372036854775808), 9223372036854775807)), .i (some ((-9223372036854775808), 9223372036854775807))] [.i (.v 89), .i (.v 90), .i (.v 91), .i (.v 92), .i (.v 93), .i (.v 94), .i (.v 95), .i (.v 96)] <|
.call 78 [.i (some ((-9223372036854775808), 9223372036854775807)), .i (some ((-9223372036854775808), 9223372036854775807))] [.i (.v 99), .i (.v 100), .i (.v 101), .i (.v 102), .i (.v 103), .i (.v 104), .i (.v 105), .i (.v 106)] <|
.ite (.not (.cmp .eq (.v 112) (.v 114))) (.ret (.bool .f)) <|
.ite (.not (.cmp .eq (.v 111) (.v 113))) (.ret (.bool .f)) <|
.ite (.not (.cmp .eq (.v 116) (.z 0))) (.ret (.bool .f)) <|
.ite (.not (.cmp .eq (.v 115) (.z 0))) (.ret (.bool .f)) <|
.lett (.add (.v 52) (.z 1)) <|
.again 2 [.i (.v 117), .i (.v 78), .i (.v 79), .i (.v 80), .i (.v 81), .i (.v 82), .i (.v 83), .i (.v 84), .i (.v 85), .i (.v 89), .i (.v 90), .i (.v 91), .i (.v 92), .i (.v 93), .i (.v 94), .i (.v 95), .i (.v 96), .i (.v 99), .i (.v 100), .i (.v 101), .i (.v 102), .i (.v 103), .i (.v 104), .i (.v 105), .i (.v 106)]) <|
.ret (.bool .t)) <|
.bad 120
noncomputable def leturn_cx : Ctx := { tys := tys, fns := fns, sps := [(133, enew_sp), (71, enext_sp), (78, everd_sp), (70, eal_sp)], anns := [((20, 7), { slots := [64], cells := [(5, 0), (5, 1), (5, 2), (5, 3), (5, 4), (5, 5), (5, 6), (5, 7), (7, 0), (7, 1), (7, 2), (7, 3), (7, 4), (7, 5), (7, 6), (7, 7), (8, 0), (8, 1), (8, 2), (8, 3), (8, 4), (8, 5), (8, 6), (8, 7)], ivs := [some (0, 60), some ((-1000000), 1000000), some (1, 99), some (1, 1000000), some (0, 1000000000), some ((-1000000000), 1000000000), some ((-1000000000), 1000000000), some (0, 1000000), some (0, 1000000), some ((-1000000), 1000000), some (1, 99), some (1, 1000000), some (0, 1000000000), some ((-1000000000), 1000000000), some ((-1000000000), 1000000000), some (0, 1000000), some (0, 1000000), some ((-1000000), 1000000), some (1, 99), some (1, 1000000), some (0, 1000000000), some ((-1000000000), 1000000000), some ((-1000000000), 1000000000), some (0, 1000000), some (0, 1000000)] }), ((69, 3), { slots := [25], cells := [], ivs := [some (0, 60)], lsts := [13], elem := 3 })], trys := [] }
def leturn_ivs : List (Option (Int × Int)) := [some ((-9223372036854775808), 9223372036854775807), some ((-9223372036854775808), 9223372036854775807), some ((-9223372036854775808), 9223372036854775807), none]
set_option maxRecDepth 100000 in
theorem leturn_walk : runFn leturn_cx 3000 20 Try.f20 leturn_sp.args leturn_ivs = leturn_tree := by kernel_rfl
noncomputable def leturn_M : Nat → SpecSem
  | 133 => enew_sem
  | 71 => enext_sem
  | 78 => everd_sem
  | 70 => eal_sem
  | _ => noSem
theorem leturn_M133 : leturn_M 133 = enew_sem := rfl
theorem leturn_M71 : leturn_M 71 = enext_sem := rfl
theorem leturn_M78 : leturn_M 78 = everd_sem := rfl
theorem leturn_M70 : leturn_M 70 = eal_sem := rfl
theorem leturn_cxok : CxOK Try.prog leturn_cx leturn_M := ⟨tysOK, fnsOK, spCons enew_ok <| spCons enext_ok <| spCons everd_ok <| spCons eal_ok <| fun _ _ h => spNil h, mixedOK, fun _ _ h => trNil h⟩
set_option maxRecDepth 100000 in
set_option maxHeartbeats 8000000 in
theorem leturn_den (R RP : Value → Prop) (F : Ex → St → Js → Env → Prop) (x0 : Int) (x1 : Int) (x2 : Int) (x3 : List Int) : Tree.den leturn_M R RP F leturn_tree [] [(.i x0), (.i x1), (.i x2), (.l x3)] = (
  ∀ x4 : Int, x4 = ((List.length x3 : Int)) →
∀ x5 : Int, x5 = (if (Cmp.den .lt (60 : Int) x4) = true then (60 : Int) else x4) →
((Cmp.den .le x5 x4) = true → ∀ x6 : List Int, x6 = (List.take (Int.toNat x5 - Int.toNat (0 : Int)) (List.drop (Int.toNat (0 : Int)) x3)) →
∀ x7 : Int, x7 = ((List.length x6 : Int)) →
∃ (I0 : List Cv → Prop) (mu0 : List Cv → Nat), Fits [.i (some ((0), (60))), .l] [(.i (0 : Int)), (.l (([] : List Int)))] ∧ I0 [(.i (0 : Int)), (.l (([] : List Int)))] ∧ (
∀ x8 : Int, (0 : Int) ≤ x8 → x8 ≤ (60 : Int) → ∀ x9 : List Int, InI x9 → I0 [.i x8, .l x9] →
((Cmp.den .lt x8 x7) = true → ∀ x10 : Int, x10 = (List.getD x6 (Int.toNat x8) 0) →
∀ x11 : Int, x11 = (if (Cmp.den .lt x10 (-100000 : Int)) = true then (-100000 : Int) else x10) →
∀ x12 : Int, x12 = (if (Cmp.den .lt (100000 : Int) x11) = true then (100000 : Int) else x11) →
∀ x13 : Int, x13 = ((List.length x9 : Int)) →
((Cmp.den .le x13 (100000 : Int)) = true → ∀ x14 : List Int, x14 = (x9 ++ ([x12] : List Int)) →
∀ x15 : Int, x15 = (x8 + (1 : Int)) →
Fits [.i (some ((0), (60))), .l] [(.i x15), (.l (x14))] ∧ I0 [(.i x15), (.l (x14))] ∧ mu0 [(.i x15), (.l (x14))] < mu0 [.i x8, .l x9]) ∧ ((Cmp.den .le x13 (100000 : Int)) = false → False)) ∧ ((Cmp.den .lt x8 x7) = false → ∀ x10 : Int, x10 = (Int.tmod x0 (100001 : Int)) →
∀ x11 : Int, x11 = (Int.tmod x1 (99 : Int)) →
∀ x12 : Int, x12 = (x11 + (99 : Int)) →
∀ x13 : Int, x13 = (x12 % (99 : Int)) →
∀ x14 : Int, x14 = ((1 : Int) + x13) →
∀ x15 : Int, x15 = (Int.tmod x2 (1000000 : Int)) →
∀ x16 : Int, x16 = (x15 + (1000000 : Int)) →
∀ x17 : Int, x17 = (x16 % (1000000 : Int)) →
∀ x18 : Int, x18 = ((1 : Int) + x17) →
(enew_sem.pre [(.i x10), (.i x14), (.i x18)]) ∧ (
∀ x19 : Int, x19 = (Cv.int (Env.get (enew_sem.out [(.i x10), (.i x14), (.i x18)]) 0)) → (-9223372036854775808 : Int) ≤ x19 → x19 ≤ (9223372036854775807 : Int) →
∀ x20 : Int, x20 = (Cv.int (Env.get (enew_sem.out [(.i x10), (.i x14), (.i x18)]) 1)) → (-9223372036854775808 : Int) ≤ x20 → x20 ≤ (9223372036854775807 : Int) →
∀ x21 : Int, x21 = (Cv.int (Env.get (enew_sem.out [(.i x10), (.i x14), (.i x18)]) 2)) → (-9223372036854775808 : Int) ≤ x21 → x21 ≤ (9223372036854775807 : Int) →
∀ x22 : Int, x22 = (Cv.int (Env.get (enew_sem.out [(.i x10), (.i x14), (.i x18)]) 3)) → (-9223372036854775808 : Int) ≤ x22 → x22 ≤ (9223372036854775807 : Int) →
∀ x23 : Int, x23 = (Cv.int (Env.get (enew_sem.out [(.i x10), (.i x14), (.i x18)]) 4)) → (-9223372036854775808 : Int) ≤ x23 → x23 ≤ (9223372036854775807 : Int) →
∀ x24 : Int, x24 = (Cv.int (Env.get (enew_sem.out [(.i x10), (.i x14), (.i x18)]) 5)) → (-9223372036854775808 : Int) ≤ x24 → x24 ≤ (9223372036854775807 : Int) →
∀ x25 : Int, x25 = (Cv.int (Env.get (enew_sem.out [(.i x10), (.i x14), (.i x18)]) 6)) → (-9223372036854775808 : Int) ≤ x25 → x25 ≤ (9223372036854775807 : Int) →
∀ x26 : Int, x26 = (Cv.int (Env.get (enew_sem.out [(.i x10), (.i x14), (.i x18)]) 7)) → (-9223372036854775808 : Int) ≤ x26 → x26 ≤ (9223372036854775807 : Int) →
∀ x27 : Int, x27 = (Cv.int (Env.get (enew_sem.out [(.i x10), (.i x14), (.i x18)]) 8)) → (-9223372036854775808 : Int) ≤ x27 → x27 ≤ (9223372036854775807 : Int) →
∀ x28 : Int, x28 = (Int.tmod x0 (100001 : Int)) →
∀ x29 : Int, x29 = ((0 : Int) - x28) →
∃ (I1 : List Cv → Prop) (mu1 : List Cv → Nat), Fits [.i (some ((0), (60))), .l] [(.i (0 : Int)), (.l (([] : List Int)))] ∧ I1 [(.i (0 : Int)), (.l (([] : List Int)))] ∧ (
∀ x30 : Int, (0 : Int) ≤ x30 → x30 ≤ (60 : Int) → ∀ x31 : List Int, InI x31 → I1 [.i x30, .l x31] →
∀ x32 : Int, x32 = (Int.tmod x29 (100001 : Int)) →
∀ x33 : Int, x33 = (Int.tmod x1 (99 : Int)) →
∀ x34 : Int, x34 = (x33 + (99 : Int)) →
∀ x35 : Int, x35 = (x34 % (99 : Int)) →
∀ x36 : Int, x36 = ((1 : Int) + x35) →
∀ x37 : Int, x37 = (Int.tmod x2 (1000000 : Int)) →
∀ x38 : Int, x38 = (x37 + (1000000 : Int)) →
∀ x39 : Int, x39 = (x38 % (1000000 : Int)) →
∀ x40 : Int, x40 = ((1 : Int) + x39) →
(enew_sem.pre [(.i x32), (.i x36), (.i x40)]) ∧ (
∀ x41 : Int, x41 = (Cv.int (Env.get (enew_sem.out [(.i x32), (.i x36), (.i x40)]) 0)) → (-9223372036854775808 : Int) ≤ x41 → x41 ≤ (9223372036854775807 : Int) →
∀ x42 : Int, x42 = (Cv.int (Env.get (enew_sem.out [(.i x32), (.i x36), (.i x40)]) 1)) → (-9223372036854775808 : Int) ≤ x42 → x42 ≤ (9223372036854775807 : Int) →
∀ x43 : Int, x43 = (Cv.int (Env.get (enew_sem.out [(.i x32), (.i x36), (.i x40)]) 2)) → (-9223372036854775808 : Int) ≤ x43 → x43 ≤ (9223372036854775807 : Int) →
∀ x44 : Int, x44 = (Cv.int (Env.get (enew_sem.out [(.i x32), (.i x36), (.i x40)]) 3)) → (-9223372036854775808 : Int) ≤ x44 → x44 ≤ (9223372036854775807 : Int) →
∀ x45 : Int, x45 = (Cv.int (Env.get (enew_sem.out [(.i x32), (.i x36), (.i x40)]) 4)) → (-9223372036854775808 : Int) ≤ x45 → x45 ≤ (9223372036854775807 : Int) →
∀ x46 : Int, x46 = (Cv.int (Env.get (enew_sem.out [(.i x32), (.i x36), (.i x40)]) 5)) → (-9223372036854775808 : Int) ≤ x46 → x46 ≤ (9223372036854775807 : Int) →
∀ x47 : Int, x47 = (Cv.int (Env.get (enew_sem.out [(.i x32), (.i x36), (.i x40)]) 6)) → (-9223372036854775808 : Int) ≤ x47 → x47 ≤ (9223372036854775807 : Int) →
∀ x48 : Int, x48 = (Cv.int (Env.get (enew_sem.out [(.i x32), (.i x36), (.i x40)]) 7)) → (-9223372036854775808 : Int) ≤ x48 → x48 ≤ (9223372036854775807 : Int) →
∀ x49 : Int, x49 = (Cv.int (Env.get (enew_sem.out [(.i x32), (.i x36), (.i x40)]) 8)) → (-9223372036854775808 : Int) ≤ x49 → x49 ≤ (9223372036854775807 : Int) →
((!(Cmp.den .eq x27 (0 : Int))) = true → R (Value.bool false)) ∧ ((!(Cmp.den .eq x27 (0 : Int))) = false → ((!(Cmp.den .eq x49 (0 : Int))) = true → R (Value.bool false)) ∧ ((!(Cmp.den .eq x49 (0 : Int))) = false → (eal_sem.pre []) ∧ (
((!(Cv.bool (Env.get (eal_sem.out []) 0))) = true → R (Value.bool false)) ∧ ((!(Cv.bool (Env.get (eal_sem.out []) 0))) = false → ∀ x51 : Int, x51 = ((List.length x9 : Int)) →
∃ (I2 : List Cv → Prop) (mu2 : List Cv → Nat), Fits [.i (some ((0), (60))), .i (some ((-1000000), (1000000))), .i (some ((1), (99))), .i (some ((1), (1000000))), .i (some ((0), (1000000000))), .i (some ((-1000000000), (1000000000))), .i (some ((-1000000000), (1000000000))), .i (some ((0), (1000000))), .i (some ((0), (1000000))), .i (some ((-1000000), (1000000))), .i (some ((1), (99))), .i (some ((1), (1000000))), .i (some ((0), (1000000000))), .i (some ((-1000000000), (1000000000))), .i (some ((-1000000000), (1000000000))), .i (some ((0), (1000000))), .i (some ((0), (1000000))), .i (some ((-1000000), (1000000))), .i (some ((1), (99))), .i (some ((1), (1000000))), .i (some ((0), (1000000000))), .i (some ((-1000000000), (1000000000))), .i (some ((-1000000000), (1000000000))), .i (some ((0), (1000000))), .i (some ((0), (1000000)))] [(.i (0 : Int)), (.i x19), (.i x20), (.i x21), (.i x22), (.i x23), (.i x24), (.i x25), (.i x26), (.i x41), (.i x42), (.i x43), (.i x44), (.i x45), (.i x46), (.i x47), (.i x48), (.i x19), (.i x20), (.i x21), (.i x22), (.i x23), (.i x24), (.i x25), (.i x26)] ∧ I2 [(.i (0 : Int)), (.i x19), (.i x20), (.i x21), (.i x22), (.i x23), (.i x24), (.i x25), (.i x26), (.i x41), (.i x42), (.i x43), (.i x44), (.i x45), (.i x46), (.i x47), (.i x48), (.i x19), (.i x20), (.i x21), (.i x22), (.i x23), (.i x24), (.i x25), (.i x26)] ∧ (
∀ x52 : Int, (0 : Int) ≤ x52 → x52 ≤ (60 : Int) → ∀ x53 : Int, (-1000000 : Int) ≤ x53 → x53 ≤ (1000000 : Int) → ∀ x54 : Int, (1 : Int) ≤ x54 → x54 ≤ (99 : Int) → ∀ x55 : Int, (1 : Int) ≤ x55 → x55 ≤ (1000000 : Int) → ∀ x56 : Int, (0 : Int) ≤ x56 → x56 ≤ (1000000000 : Int) → ∀ x57 : Int, (-1000000000 : Int) ≤ x57 → x57 ≤ (1000000000 : Int) → ∀ x58 : Int, (-1000000000 : Int) ≤ x58 → x58 ≤ (1000000000 : Int) → ∀ x59 : Int, (0 : Int) ≤ x59 → x59 ≤ (1000000 : Int) → ∀ x60 : Int, (0 : Int) ≤ x60 → x60 ≤ (1000000 : Int) → ∀ x61 : Int, (-1000000 : Int) ≤ x61 → x61 ≤ (1000000 : Int) → ∀ x62 : Int, (1 : Int) ≤ x62 → x62 ≤ (99 : Int) → ∀ x63 : Int, (1 : Int) ≤ x63 → x63 ≤ (1000000 : Int) → ∀ x64 : Int, (0 : Int) ≤ x64 → x64 ≤ (1000000000 : Int) → ∀ x65 : Int, (-1000000000 : Int) ≤ x65 → x65 ≤ (1000000000 : Int) → ∀ x66 : Int, (-1000000000 : Int) ≤ x66 → x66 ≤ (1000000000 : Int) → ∀ x67 : Int, (0 : Int) ≤ x67 → x67 ≤ (1000000 : Int) → ∀ x68 : Int, (0 : Int) ≤ x68 → x68 ≤ (1000000 : Int) → ∀ x69 : Int, (-1000000 : Int) ≤ x69 → x69 ≤ (1000000 : Int) → ∀ x70 : Int, (1 : Int) ≤ x70 → x70 ≤ (99 : Int) → ∀ x71 : Int, (1 : Int) ≤ x71 → x71 ≤ (1000000 : Int) → ∀ x72 : Int, (0 : Int) ≤ x72 → x72 ≤ (1000000000 : Int) → ∀ x73 : Int, (-1000000000 : Int) ≤ x73 → x73 ≤ (1000000000 : Int) → ∀ x74 : Int, (-1000000000 : Int) ≤ x74 → x74 ≤ (1000000000 : Int) → ∀ x75 : Int, (0 : Int) ≤ x75 → x75 ≤ (1000000 : Int) → ∀ x76 : Int, (0 : Int) ≤ x76 → x76 ≤ (1000000 : Int) → I2 [.i x52, .i x53, .i x54, .i x55, .i x56, .i x57, .i x58, .i x59, .i x60, .i x61, .i x62, .i x63, .i x64, .i x65, .i x66, .i x67, .i x68, .i x69, .i x70, .i x71, .i x72, .i x73, .i x74, .i x75, .i x76] →
((Cmp.den .lt x52 x51) = true → ∀ x77 : Int, x77 = (List.getD x9 (Int.toNat x52) 0) →
(enext_sem.pre [(.i x53), (.i x54), (.i x55), (.i x56), (.i x57), (.i x58), (.i x59), (.i x60), (.i x77)]) ∧ (
∀ x78 : Int, x78 = (Cv.int (Env.get (enext_sem.out [(.i x53), (.i x54), (.i x55), (.i x56), (.i x57), (.i x58), (.i x59), (.i x60), (.i x77)]) 0)) → (-9223372036854775808 : Int) ≤ x78 → x78 ≤ (9223372036854775807 : Int) →
∀ x79 : Int, x79 = (Cv.int (Env.get (enext_sem.out [(.i x53), (.i x54), (.i x55), (.i x56), (.i x57), (.i x58), (.i x59), (.i x60), (.i x77)]) 1)) → (-9223372036854775808 : Int) ≤ x79 → x79 ≤ (9223372036854775807 : Int) →
∀ x80 : Int, x80 = (Cv.int (Env.get (enext_sem.out [(.i x53), (.i x54), (.i x55), (.i x56), (.i x57), (.i x58), (.i x59), (.i x60), (.i x77)]) 2)) → (-9223372036854775808 : Int) ≤ x80 → x80 ≤ (9223372036854775807 : Int) →
∀ x81 : Int, x81 = (Cv.int (Env.get (enext_sem.out [(.i x53), (.i x54), (.i x55), (.i x56), (.i x57), (.i x58), (.i x59), (.i x60), (.i x77)]) 3)) → (-9223372036854775808 : Int) ≤ x81 → x81 ≤ (9223372036854775807 : Int) →
∀ x82 : Int, x82 = (Cv.int (Env.get (enext_sem.out [(.i x53), (.i x54), (.i x55), (.i x56), (.i x57), (.i x58), (.i x59), (.i x60), (.i x77)]) 4)) → (-9223372036854775808 : Int) ≤ x82 → x82 ≤ (9223372036854775807 : Int) →
∀ x83 : Int, x83 = (Cv.int (Env.get (enext_sem.out [(.i x53), (.i x54), (.i x55), (.i x56), (.i x57), (.i x58), (.i x59), (.i x60), (.i x77)]) 5)) → (-9223372036854775808 : Int) ≤ x83 → x83 ≤ (9223372036854775807 : Int) →
∀ x84 : Int, x84 = (Cv.int (Env.get (enext_sem.out [(.i x53), (.i x54), (.i x55), (.i x56), (.i x57), (.i x58), (.i x59), (.i x60), (.i x77)]) 6)) → (-9223372036854775808 : Int) ≤ x84 → x84 ≤ (9223372036854775807 : Int) →
∀ x85 : Int, x85 = (Cv.int (Env.get (enext_sem.out [(.i x53), (.i x54), (.i x55), (.i x56), (.i x57), (.i x58), (.i x59), (.i x60), (.i x77)]) 7)) → (-9223372036854775808 : Int) ≤ x85 → x85 ≤ (9223372036854775807 : Int) →
∀ x87 : Int, x87 = (Cv.int (Env.get (enext_sem.out [(.i x53), (.i x54), (.i x55), (.i x56), (.i x57), (.i x58), (.i x59), (.i x60), (.i x77)]) 9)) → (-9223372036854775808 : Int) ≤ x87 → x87 ≤ (9223372036854775807 : Int) →
∀ x88 : Int, x88 = (IntKind.i64.wrap ((0 : Int) - x77)) →
(enext_sem.pre [(.i x61), (.i x62), (.i x63), (.i x64), (.i x65), (.i x66), (.i x67), (.i x68), (.i x88)]) ∧ (
∀ x89 : Int, x89 = (Cv.int (Env.get (enext_sem.out [(.i x61), (.i x62), (.i x63), (.i x64), (.i x65), (.i x66), (.i x67), (.i x68), (.i x88)]) 0)) → (-9223372036854775808 : Int) ≤ x89 → x89 ≤ (9223372036854775807 : Int) →
∀ x90 : Int, x90 = (Cv.int (Env.get (enext_sem.out [(.i x61), (.i x62), (.i x63), (.i x64), (.i x65), (.i x66), (.i x67), (.i x68), (.i x88)]) 1)) → (-9223372036854775808 : Int) ≤ x90 → x90 ≤ (9223372036854775807 : Int) →
∀ x91 : Int, x91 = (Cv.int (Env.get (enext_sem.out [(.i x61), (.i x62), (.i x63), (.i x64), (.i x65), (.i x66), (.i x67), (.i x68), (.i x88)]) 2)) → (-9223372036854775808 : Int) ≤ x91 → x91 ≤ (9223372036854775807 : Int) →
∀ x92 : Int, x92 = (Cv.int (Env.get (enext_sem.out [(.i x61), (.i x62), (.i x63), (.i x64), (.i x65), (.i x66), (.i x67), (.i x68), (.i x88)]) 3)) → (-9223372036854775808 : Int) ≤ x92 → x92 ≤ (9223372036854775807 : Int) →
∀ x93 : Int, x93 = (Cv.int (Env.get (enext_sem.out [(.i x61), (.i x62), (.i x63), (.i x64), (.i x65), (.i x66), (.i x67), (.i x68), (.i x88)]) 4)) → (-9223372036854775808 : Int) ≤ x93 → x93 ≤ (9223372036854775807 : Int) →
∀ x94 : Int, x94 = (Cv.int (Env.get (enext_sem.out [(.i x61), (.i x62), (.i x63), (.i x64), (.i x65), (.i x66), (.i x67), (.i x68), (.i x88)]) 5)) → (-9223372036854775808 : Int) ≤ x94 → x94 ≤ (9223372036854775807 : Int) →
∀ x95 : Int, x95 = (Cv.int (Env.get (enext_sem.out [(.i x61), (.i x62), (.i x63), (.i x64), (.i x65), (.i x66), (.i x67), (.i x68), (.i x88)]) 6)) → (-9223372036854775808 : Int) ≤ x95 → x95 ≤ (9223372036854775807 : Int) →
∀ x96 : Int, x96 = (Cv.int (Env.get (enext_sem.out [(.i x61), (.i x62), (.i x63), (.i x64), (.i x65), (.i x66), (.i x67), (.i x68), (.i x88)]) 7)) → (-9223372036854775808 : Int) ≤ x96 → x96 ≤ (9223372036854775807 : Int) →
∀ x98 : Int, x98 = (Cv.int (Env.get (enext_sem.out [(.i x61), (.i x62), (.i x63), (.i x64), (.i x65), (.i x66), (.i x67), (.i x68), (.i x88)]) 9)) → (-9223372036854775808 : Int) ≤ x98 → x98 ≤ (9223372036854775807 : Int) →
(enext_sem.pre [(.i x69), (.i x70), (.i x71), (.i x72), (.i x73), (.i x74), (.i x75), (.i x76), (.i x69)]) ∧ (
∀ x99 : Int, x99 = (Cv.int (Env.get (enext_sem.out [(.i x69), (.i x70), (.i x71), (.i x72), (.i x73), (.i x74), (.i x75), (.i x76), (.i x69)]) 0)) → (-9223372036854775808 : Int) ≤ x99 → x99 ≤ (9223372036854775807 : Int) →
∀ x100 : Int, x100 = (Cv.int (Env.get (enext_sem.out [(.i x69), (.i x70), (.i x71), (.i x72), (.i x73), (.i x74), (.i x75), (.i x76), (.i x69)]) 1)) → (-9223372036854775808 : Int) ≤ x100 → x100 ≤ (9223372036854775807 : Int) →
∀ x101 : Int, x101 = (Cv.int (Env.get (enext_sem.out [(.i x69), (.i x70), (.i x71), (.i x72), (.i x73), (.i x74), (.i x75), (.i x76), (.i x69)]) 2)) → (-9223372036854775808 : Int) ≤ x101 → x101 ≤ (9223372036854775807 : Int) →
∀ x102 : Int, x102 = (Cv.int (Env.get (enext_sem.out [(.i x69), (.i x70), (.i x71), (.i x72), (.i x73), (.i x74), (.i x75), (.i x76), (.i x69)]) 3)) → (-9223372036854775808 : Int) ≤ x102 → x102 ≤ (9223372036854775807 : Int) →
∀ x103 : Int, x103 = (Cv.int (Env.get (enext_sem.out [(.i x69), (.i x70), (.i x71), (.i x72), (.i x73), (.i x74), (.i x75), (.i x76), (.i x69)]) 4)) → (-9223372036854775808 : Int) ≤ x103 → x103 ≤ (9223372036854775807 : Int) →
∀ x104 : Int, x104 = (Cv.int (Env.get (enext_sem.out [(.i x69), (.i x70), (.i x71), (.i x72), (.i x73), (.i x74), (.i x75), (.i x76), (.i x69)]) 5)) → (-9223372036854775808 : Int) ≤ x104 → x104 ≤ (9223372036854775807 : Int) →
∀ x105 : Int, x105 = (Cv.int (Env.get (enext_sem.out [(.i x69), (.i x70), (.i x71), (.i x72), (.i x73), (.i x74), (.i x75), (.i x76), (.i x69)]) 6)) → (-9223372036854775808 : Int) ≤ x105 → x105 ≤ (9223372036854775807 : Int) →
∀ x106 : Int, x106 = (Cv.int (Env.get (enext_sem.out [(.i x69), (.i x70), (.i x71), (.i x72), (.i x73), (.i x74), (.i x75), (.i x76), (.i x69)]) 7)) → (-9223372036854775808 : Int) ≤ x106 → x106 ≤ (9223372036854775807 : Int) →
∀ x108 : Int, x108 = (Cv.int (Env.get (enext_sem.out [(.i x69), (.i x70), (.i x71), (.i x72), (.i x73), (.i x74), (.i x75), (.i x76), (.i x69)]) 9)) → (-9223372036854775808 : Int) ≤ x108 → x108 ≤ (9223372036854775807 : Int) →
((!(Cmp.den .eq x87 (0 : Int))) = true → R (Value.bool false)) ∧ ((!(Cmp.den .eq x87 (0 : Int))) = false → ((!(Cmp.den .eq x98 (0 : Int))) = true → R (Value.bool false)) ∧ ((!(Cmp.den .eq x98 (0 : Int))) = false → ((!(Cmp.den .eq x108 (0 : Int))) = true → R (Value.bool false)) ∧ ((!(Cmp.den .eq x108 (0 : Int))) = false → ((!((Cv.bool (Env.get (enext_sem.out [(.i x53), (.i x54), (.i x55), (.i x56), (.i x57), (.i x58), (.i x59), (.i x60), (.i x77)]) 8)) == (Cv.bool (Env.get (enext_sem.out [(.i x61), (.i x62), (.i x63), (.i x64), (.i x65), (.i x66), (.i x67), (.i x68), (.i x88)]) 8)))) = true → R (Value.bool false)) ∧ ((!((Cv.bool (Env.get (enext_sem.out [(.i x53), (.i x54), (.i x55), (.i x56), (.i x57), (.i x58), (.i x59), (.i x60), (.i x77)]) 8)) == (Cv.bool (Env.get (enext_sem.out [(.i x61), (.i x62), (.i x63), (.i x64), (.i x65), (.i x66), (.i x67), (.i x68), (.i x88)]) 8)))) = false → ∀ x109 : Int, x109 = (IntKind.i64.wrap ((0 : Int) - x94)) →
((!(Cmp.den .eq x82 x109)) = true → R (Value.bool false)) ∧ ((!(Cmp.den .eq x82 x109)) = false → ∀ x110 : Int, x110 = (IntKind.i64.wrap ((0 : Int) - x93)) →
((!(Cmp.den .eq x83 x110)) = true → R (Value.bool false)) ∧ ((!(Cmp.den .eq x83 x110)) = false → ((!((Cmp.den .eq x84 x95) && (Cmp.den .eq x85 x96))) = true → R (Value.bool false)) ∧ ((!((Cmp.den .eq x84 x95) && (Cmp.den .eq x85 x96))) = false → ((!((Cmp.den .eq x103 x73) && (Cmp.den .eq x104 x74))) = true → R (Value.bool false)) ∧ ((!((Cmp.den .eq x103 x73) && (Cmp.den .eq x104 x74))) = false → (everd_sem.pre [(.i x78), (.i x79), (.i x80), (.i x81), (.i x82), (.i x83), (.i x84), (.i x85)]) ∧ (
∀ x111 : Int, x111 = (Cv.int (Env.get (everd_sem.out [(.i x78), (.i x79), (.i x80), (.i x81), (.i x82), (.i x83), (.i x84), (.i x85)]) 0)) → (-9223372036854775808 : Int) ≤ x111 → x111 ≤ (9223372036854775807 : Int) →
∀ x112 : Int, x112 = (Cv.int (Env.get (everd_sem.out [(.i x78), (.i x79), (.i x80), (.i x81), (.i x82), (.i x83), (.i x84), (.i x85)]) 1)) → (-9223372036854775808 : Int) ≤ x112 → x112 ≤ (9223372036854775807 : Int) →
(everd_sem.pre [(.i x89), (.i x90), (.i x91), (.i x92), (.i x93), (.i x94), (.i x95), (.i x96)]) ∧ (
∀ x113 : Int, x113 = (Cv.int (Env.get (everd_sem.out [(.i x89), (.i x90), (.i x91), (.i x92), (.i x93), (.i x94), (.i x95), (.i x96)]) 0)) → (-9223372036854775808 : Int) ≤ x113 → x113 ≤ (9223372036854775807 : Int) →
∀ x114 : Int, x114 = (Cv.int (Env.get (everd_sem.out [(.i x89), (.i x90), (.i x91), (.i x92), (.i x93), (.i x94), (.i x95), (.i x96)]) 1)) → (-9223372036854775808 : Int) ≤ x114 → x114 ≤ (9223372036854775807 : Int) →
(everd_sem.pre [(.i x99), (.i x100), (.i x101), (.i x102), (.i x103), (.i x104), (.i x105), (.i x106)]) ∧ (
∀ x115 : Int, x115 = (Cv.int (Env.get (everd_sem.out [(.i x99), (.i x100), (.i x101), (.i x102), (.i x103), (.i x104), (.i x105), (.i x106)]) 0)) → (-9223372036854775808 : Int) ≤ x115 → x115 ≤ (9223372036854775807 : Int) →
∀ x116 : Int, x116 = (Cv.int (Env.get (everd_sem.out [(.i x99), (.i x100), (.i x101), (.i x102), (.i x103), (.i x104), (.i x105), (.i x106)]) 1)) → (-9223372036854775808 : Int) ≤ x116 → x116 ≤ (9223372036854775807 : Int) →
((!(Cmp.den .eq x112 x114)) = true → R (Value.bool false)) ∧ ((!(Cmp.den .eq x112 x114)) = false → ((!(Cmp.den .eq x111 x113)) = true → R (Value.bool false)) ∧ ((!(Cmp.den .eq x111 x113)) = false → ((!(Cmp.den .eq x116 (0 : Int))) = true → R (Value.bool false)) ∧ ((!(Cmp.den .eq x116 (0 : Int))) = false → ((!(Cmp.den .eq x115 (0 : Int))) = true → R (Value.bool false)) ∧ ((!(Cmp.den .eq x115 (0 : Int))) = false → ∀ x117 : Int, x117 = (x52 + (1 : Int)) →
Fits [.i (some ((0), (60))), .i (some ((-1000000), (1000000))), .i (some ((1), (99))), .i (some ((1), (1000000))), .i (some ((0), (1000000000))), .i (some ((-1000000000), (1000000000))), .i (some ((-1000000000), (1000000000))), .i (some ((0), (1000000))), .i (some ((0), (1000000))), .i (some ((-1000000), (1000000))), .i (some ((1), (99))), .i (some ((1), (1000000))), .i (some ((0), (1000000000))), .i (some ((-1000000000), (1000000000))), .i (some ((-1000000000), (1000000000))), .i (some ((0), (1000000))), .i (some ((0), (1000000))), .i (some ((-1000000), (1000000))), .i (some ((1), (99))), .i (some ((1), (1000000))), .i (some ((0), (1000000000))), .i (some ((-1000000000), (1000000000))), .i (some ((-1000000000), (1000000000))), .i (some ((0), (1000000))), .i (some ((0), (1000000)))] [(.i x117), (.i x78), (.i x79), (.i x80), (.i x81), (.i x82), (.i x83), (.i x84), (.i x85), (.i x89), (.i x90), (.i x91), (.i x92), (.i x93), (.i x94), (.i x95), (.i x96), (.i x99), (.i x100), (.i x101), (.i x102), (.i x103), (.i x104), (.i x105), (.i x106)] ∧ I2 [(.i x117), (.i x78), (.i x79), (.i x80), (.i x81), (.i x82), (.i x83), (.i x84), (.i x85), (.i x89), (.i x90), (.i x91), (.i x92), (.i x93), (.i x94), (.i x95), (.i x96), (.i x99), (.i x100), (.i x101), (.i x102), (.i x103), (.i x104), (.i x105), (.i x106)] ∧ mu2 [(.i x117), (.i x78), (.i x79), (.i x80), (.i x81), (.i x82), (.i x83), (.i x84), (.i x85), (.i x89), (.i x90), (.i x91), (.i x92), (.i x93), (.i x94), (.i x95), (.i x96), (.i x99), (.i x100), (.i x101), (.i x102), (.i x103), (.i x104), (.i x105), (.i x106)] < mu2 [.i x52, .i x53, .i x54, .i x55, .i x56, .i x57, .i x58, .i x59, .i x60, .i x61, .i x62, .i x63, .i x64, .i x65, .i x66, .i x67, .i x68, .i x69, .i x70, .i x71, .i x72, .i x73, .i x74, .i x75, .i x76]))))))))))))))))))) ∧ ((Cmp.den .lt x52 x51) = false → R (Value.bool true))))))))))))) ∧ ((Cmp.den .le x5 x4) = false → False)) := by kernel_rfl

def leturn_sem : SpecSem := { pre := fun cs => match cs with | [.i a, .i b, .i c, .l xs] => IsI a ∧ IsI b ∧ IsI c ∧ InI xs | _ => False, out := fun cs => match cs with | [.i a, .i b, .i c, .l xs] => [.b true] | _ => [] }
set_option maxRecDepth 10000 in
set_option maxHeartbeats 16000000 in
theorem leturn_ok : SpecOK Try.prog 20 leturn_sp leturn_sem := by
  refine spec_of_tree leturn_cxok Try.func20 (by kernel_rfl) (by kernel_rfl) leturn_walk rfl ?_
  intro cs hpre
  match cs, hpre with
  | [.i a, .i b, .i c, .l xs], ⟨j_a, j_b, j_c, j_xs⟩ =>
    have h_a := j_a
    unfold IsI at h_a
    have h_b := j_b
    unfold IsI at h_b
    have h_c := j_c
    unfold IsI at h_c
    refine ⟨rfl, IvsB.ok (by simp only [leturn_ivs, IvsB, Cv.int, and_true, j_xs, true_and] <;> omega), ?_, ?_⟩
    · simp only [leturn_sem, leturn_sp, Fits]
    · rw [leturn_den]
      simp only [leturn_sem, leturn_sp, leturn_den, enew_sem, enext_sem, everd_sem, eal_sem, Tree.den, LE.den, Cv.list, placeA, List.getElem?_cons_zero, List.getElem?_cons_succ, IE.den, BE.den, At.den, CA.den, Env.get, Cv.int, Cv.bool, List.cons_append, List.nil_append, List.map_cons, List.map_nil, bindRes, bindEq, Fits, SV.den, denL, place, placeL, eq_t, eq_f, lt_t, lt_f, le_t, le_f, beq_iff_eq, beq_eq_false_iff_ne, ne_eq, reduceCtorEq, b_dec, decide_eq_true_eq, decide_eq_false_iff_not, Bool.not_eq_false', Bool.or_eq_true, Bool.or_eq_false_iff, Bool.and_eq_false_iff, true_iff, false_iff, Bool.false_eq_true, Bool.not_eq_true', Bool.and_eq_true, Bool.not_true, Bool.not_false, List.cons.injEq, Cv.i.injEq, Cv.b.injEq, and_true, true_and, agg_inj, tup_inj, Value.int.injEq, Value.bool.injEq]
      intro x4 e4 x5 e5
      refine ⟨fun hle => ?_, fun h => by omega⟩
      intro x6 e6 x7 e7
      have h7 : x7 ≤ 60 := by
        have k1 := List.length_take_le (x5.toNat - Int.toNat 0) (List.drop (Int.toNat 0) xs)
        rw [← e6] at k1
        have k2 : x5 ≤ 60 := by omega
        have k3 : x5.toNat - Int.toNat 0 ≤ 60 := by omega
        omega
      clear e6 e5 e4 hle
      refine ⟨fun vs => match vs with | [.i i, .l ys] => (ys.length : Int) = i ∧ (∀ y ∈ ys, -100000 ≤ y ∧ y ≤ 100000) | _ => False, fun vs => match vs with | [.i i, .l _] => (x7 - i).toNat | _ => 0, ⟨by omega, by omega, fun _ h => nomatch h⟩, ⟨rfl, fun _ h => nomatch h⟩, ?_⟩
      intro x8 l8 g8 x9 hI9 hI
      obtain ⟨hlen, hmem⟩ : (x9.length : Int) = x8 ∧ (∀ y ∈ x9, -100000 ≤ y ∧ y ≤ 100000) := hI
      refine ⟨fun hlt => ?_, fun hge => ?_⟩
      · intro x10 e10 x11 e11 x12 e12 x13 e13
        refine ⟨fun h13 => ?_, fun h13 => by omega⟩
        intro x14 e14 x15 e15
        have r12 : -100000 ≤ x12 ∧ x12 ≤ 100000 := by omega
        have m14 : ∀ y ∈ x14, -100000 ≤ y ∧ y ≤ 100000 := by
          intro y hy
          rw [e14, List.mem_append] at hy
          rcases hy with hy | hy
          · exact hmem y hy
          · rw [List.mem_singleton] at hy; rw [hy]; exact r12
        have n14 : (x14.length : Int) = x15 := by rw [e14, List.length_append, List.length_singleton]; omega
        exact ⟨⟨by omega, by omega, fun y hy => by have := m14 y hy; exact ⟨by omega, by omega⟩⟩, ⟨n14, m14⟩, by show (x7 - x15).toNat < (x7 - x8).toNat; omega⟩
      · intro x10 e10 x11 e11 x12 e12 x13 e13 x14 e14 x15 e15 x16 e16 x17 e17 x18 e18
        have t10 := tm_rng (x := a) (m := 100001) (by omega)
        have t11 := tm_rng (x := b) (m := 99) (by omega)
        have t15 := tm_rng (x := c) (m := 1000000) (by omega)
        rw [← e10] at t10
        rw [← e11] at t11
        rw [← e15] at t15
        have z14 : 1 ≤ x14 ∧ x14 ≤ 99 := by omega
        have z18 : 1 ≤ x18 ∧ x18 ≤ 1000000 := by omega
        have hz : szOK x10 x14 x18 := ⟨by omega, z14, z18⟩
        have hz2 : szOK (-x10) x14 x18 := ⟨by omega, z14, z18⟩
        have j10 : IsI x10 := ⟨by omega, by omega⟩
        have j10n : IsI (-x10) := ⟨by omega, by omega⟩
        have j14 : IsI x14 := ⟨by omega, by omega⟩
        have j18 : IsI x18 := ⟨by omega, by omega⟩
        have k14 : 1 + (x11 + 99) % 99 = x14 := by rw [e14, e13, e12]
        have k18 : 1 + (x15 + 1000000) % 1000000 = x18 := by rw [e18, e17, e16]
        have k32 : Int.tmod (0 - x10) 100001 = -x10 := by rw [tm_small (by omega)]; omega
        clear e12 e13 e14 e16 e17 e18
        simp only [hz, hz2, ← e10, ← e11, ← e15, k14, k18, k32, j10, j10n, j14, j18, forall_eq, f00, eq_self, if_true, if_false, true_and, and_true, false_and, and_false, true_or, or_true, false_or, or_false, true_iff, iff_true, false_iff, iff_false, not_true_eq_false, not_false_eq_true, true_implies, false_implies, implies_true, forall_const, decide_true, decide_false, reduceCtorEq]
        clear e10 e11 e15 k14 k18 k32 t11 t15
        have hL : (x9.length : Int) ≤ 60 := by omega
        clear l8 g8 hge h7 e7 hlen hI9
        intros
        refine ⟨fun _ => True, fun _ => 0, ⟨by omega, by omega, fun _ h => nomatch h⟩, trivial, ?_⟩
        intros
        refine ⟨fun vs => match vs with | [.i i, .i T, .i W, .i S, .i N, .i A, .i B, .i C, .i D, .i T1, .i W1, .i S1, .i N1, .i A1, .i B1, .i C1, .i D1, .i T2, .i W2, .i S2, .i N2, .i A2, .i B2, .i C2, .i D2] => ewOK T W S N A B C D ∧ N ≤ i ∧ (T1 = -T ∧ W = W1 ∧ S = S1 ∧ N = N1 ∧ A1 = -B ∧ B1 = -A ∧ C = C1 ∧ D = D1) ∧ ewOK T2 W2 S2 N2 A2 B2 C2 D2 ∧ N2 ≤ i ∧ A2 = T2 * 1000 ∧ B2 = T2 * 1000 | _ => False, fun vs => match vs with | .i i :: _ => ((x9.length : Int) - i).toNat | _ => 0, by omega, ⟨⟨hz, by omega, Or.inl ⟨rfl, by omega, by omega, rfl, rfl⟩⟩, by omega, ⟨rfl, rfl, rfl, rfl, by omega, by omega, rfl, rfl⟩, ⟨hz, by omega, Or.inl ⟨rfl, by omega, by omega, rfl, rfl⟩⟩, by omega, rfl, rfl⟩, ?_⟩
        intro x52 l52 g52 x53 l53 g53 x54 l54 g54 x55 l55 g55 x56 l56 g56 x57 l57 g57 x58 l58 g58 x59 l59 g59 x60 l60 g60 x61 l61 g61 x62 l62 g62 x63 l63 g63 x64 l64 g64 x65 l65 g65 x66 l66 g66 x67 l67 g67 x68 l68 g68 x69 l69 g69 x70 l70 g70 x71 l71 g71 x72 l72 g72 x73 l73 g73 x74 l74 g74 x75 l75 g75 x76 l76 g76 hI hlt
        obtain ⟨ho, hN, ⟨y1, y2, y3, y4, y5, y6, y7, y8⟩, ho2, hN2, y9, y10⟩ : ewOK x53 x54 x55 x56 x57 x58 x59 x60 ∧ x56 ≤ x52 ∧ (x61 = -x53 ∧ x54 = x62 ∧ x55 = x63 ∧ x56 = x64 ∧ x65 = -x58 ∧ x66 = -x57 ∧ x59 = x67 ∧ x60 = x68) ∧ ewOK x69 x70 x71 x72 x73 x74 x75 x76 ∧ x72 ≤ x52 ∧ x73 = x69 * 1000 ∧ x74 = x69 * 1000 := hI
        have hv : -100000 ≤ x9.getD x52.toNat 0 ∧ x9.getD x52.toNat 0 ≤ 100000 := getD_rng hmem l52 hlt
        generalize x9.getD x52.toNat 0 = v at *
        subst y1 y2 y3 y4 y5 y6 y7 y8 y9 y10
        have hx : -1000000 ≤ v ∧ v ≤ 1000000 := by omega
        have hxn : -1000000 ≤ -v ∧ -v ≤ 1000000 := by omega
        have hx2 : -1000000 ≤ x69 ∧ x69 ≤ 1000000 := by omega
        have hn : ¬ x56 = 1000000000 := by omega
        have hn2 : ¬ x72 = 1000000000 := by omega
        have hon := ew_neg ho
        have hno : nxOK x53 x54 x55 x56 x57 x58 x59 x60 v := ⟨ho, hx, hn⟩
        have hnon : nxOK (-x53) x54 x55 x56 (-x58) (-x57) x59 x60 (-v) := ⟨hon, hxn, hn⟩
        have hno2 : nxOK x69 x70 x71 x72 (x69 * 1000) (x69 * 1000) x75 x76 x69 := ⟨ho2, hx2, hn2⟩
        obtain ⟨r1, r2, r3, r4, ⟨r5, r6, r7⟩, r8, r9, r10⟩ := ew_rng2 ho
        obtain ⟨p1, p2, p3, p4, ⟨p5, p6, p7⟩, p8, p9, p10⟩ := ew_rng2 ho2
        have q1 := nx_rng r2 hx (z := x57) ⟨r5, by omega⟩
        have q2 := nx_rng r2 hx (z := x58) ⟨by omega, r7⟩
        have q3 := nq_rng r2 (q := x59) ⟨r8, by omega⟩
        have q4 := nq_rng r2 (q := x60) ⟨by omega, r10⟩
        have q5 := nq_le (w := x54) r2 (q := x59) (r := x60) r9
        have u3 := nq_rng p2 (q := x75) ⟨p8, by omega⟩
        have u4 := nq_rng p2 (q := x76) ⟨by omega, p10⟩
        have u5 := nq_le (w := x70) p2 (q := x75) (r := x76) p9
        have wv : IntKind.i64.wrap (0 - v) = -v := by rw [w64 (by omega) (by omega)]; omega
        have w1 : IntKind.i64.wrap (x56 + 1) = x56 + 1 := w64 (by omega) (by omega)
        have w2 : IntKind.i64.wrap (x72 + 1) = x72 + 1 := w64 (by omega) (by omega)
        have m1 := nx_neg1 x54 v x58
        have m2 := nx_neg2 x54 v x57
        have m3 := (nx_mid x70 x69).1
        have m4 := (nx_mid x70 x69).2
        have hw2 : ¬ nxW x70 x69 (x69 * 1000) (x69 * 1000) := by unfold nxW; rw [m3, m4]; omega
        have e2 : ewOK x69 x70 x71 (x72 + 1) (x69 * 1000) (x69 * 1000) (nxC x70 x75) (nxD x70 x76) := ⟨ho2.1, by omega, Or.inr ⟨by omega, by omega, by omega, by omega, by omega, u5, u3.1.1, u4.2.2⟩⟩
        have n2 : ¬ x72 + 1 = 0 := by omega
        have rf := rc_fits p2 p3 u4.2 u3.1
        have vm := ve_mid (t := x69) (lo := rcLo x71 x70 (nxD x70 x76)) (hi := rcHi x71 x70 (nxC x70 x75)) ⟨rf.1.1, rf.2.1⟩
        have jT : IsI x53 := ⟨by omega, by omega⟩
        have jW : IsI x54 := ⟨by omega, by omega⟩
        have jS : IsI x55 := ⟨by omega, by omega⟩
        have jN : IsI x56 := ⟨by omega, by omega⟩
        have jA : IsI x57 := ⟨by omega, by omega⟩
        have jB : IsI x58 := ⟨by omega, by omega⟩
        have jC : IsI x59 := ⟨by omega, by omega⟩
        have jD : IsI x60 := ⟨by omega, by omega⟩
        have jTn : IsI (-x53) := ⟨by omega, by omega⟩
        have jAn : IsI (-x57) := ⟨by omega, by omega⟩
        have jBn : IsI (-x58) := ⟨by omega, by omega⟩
        have jv : IsI v := ⟨by omega, by omega⟩
        have jvn : IsI (-v) := ⟨by omega, by omega⟩
        have k1 : IsI x69 := ⟨by omega, by omega⟩
        have k2 : IsI x70 := ⟨by omega, by omega⟩
        have k3 : IsI x71 := ⟨by omega, by omega⟩
        have k4 : IsI x72 := ⟨by omega, by omega⟩
        have k5 : IsI (x69 * 1000) := ⟨by omega, by omega⟩
        have k6 : IsI x75 := ⟨by omega, by omega⟩
        have k7 : IsI x76 := ⟨by omega, by omega⟩
        have k8 : IsI (x72 + 1) := ⟨by omega, by omega⟩
        have k9 : IsI (nxC x70 x75) := ⟨by omega, by omega⟩
        have k10 : IsI (nxD x70 x76) := ⟨by omega, by omega⟩
        have j0 : IsI 0 := ⟨by omega, by omega⟩
        have jM : IsI 1000000 := ⟨by omega, by omega⟩
        by_cases hw : nxW x54 v x57 x58
        · have hwn : nxW x54 (-v) (-x58) (-x57) := by unfold nxW at hw ⊢; rw [m1, m2]; omega
          have e0 : ewOK x53 x54 x55 0 (x53 * 1000) (x53 * 1000) 1000000 1000000 := ⟨ho.1, by omega, Or.inl ⟨rfl, by omega, by omega, rfl, rfl⟩⟩
          have e0n : ewOK (-x53) x54 x55 0 (-x53 * 1000) (-x53 * 1000) 1000000 1000000 := ⟨hon.1, by omega, Or.inl ⟨rfl, by omega, by omega, rfl, rfl⟩⟩
          have wz : IntKind.i64.wrap (0 - -x53 * 1000) = x53 * 1000 := by rw [w64 (by omega) (by omega)]; omega
          have i1 : IsI (x53 * 1000) := ⟨by omega, by omega⟩
          have i2 : IsI (-x53 * 1000) := ⟨by omega, by omega⟩
          simp only [ho, hon, ho2, hno, hnon, hno2, hx, hxn, hx2, hn, hn2, hw, hwn, hw2, wv, w1, w2, m3, m4, e0, e0n, e2, n2, vm, wz, i1, i2, jT, jW, jS, jN, jA, jB, jC, jD, jTn, jAn, jBn, jv, jvn, k1, k2, k3, k4, k5, k6, k7, j0, jM, k8, k9, k10, f00, eq_self, forall_eq, if_true, if_false, true_and, and_true, false_and, and_false, true_or, or_true, false_or, or_false, true_iff, iff_true, false_iff, iff_false, not_true_eq_false, not_false_eq_true, true_implies, false_implies, implies_true, forall_const, decide_true, decide_false, reduceCtorEq]
          intros
          omega
        · have hwn : ¬ nxW x54 (-v) (-x58) (-x57) := by unfold nxW at hw ⊢; rw [m1, m2]; omega
          have d1 : ¬ 64 < nxB x54 v x58 - nxA x54 v x57 := hw
          have s1 := nx_le (w := x54) (x := v) r2 r6
          have e1 : ewOK x53 x54 x55 (x56 + 1) (nxA x54 v x57) (nxB x54 v x58) (nxC x54 x59) (nxD x54 x60) := ⟨ho.1, by omega, Or.inr ⟨by omega, s1, q1.1.1, q2.2.2, by omega, q5, q3.1.1, q4.2.2⟩⟩
          have e1n := ew_neg e1
          have n1 : ¬ x56 + 1 = 0 := by omega
          have z1 : IntKind.i64.wrap (0 - -(nxA x54 v x57)) = nxA x54 v x57 := by rw [w64 (by omega) (by omega)]; omega
          have z2 : IntKind.i64.wrap (0 - -(nxB x54 v x58)) = nxB x54 v x58 := by rw [w64 (by omega) (by omega)]; omega
          have i1 : IsI (nxA x54 v x57) := ⟨by omega, by omega⟩
          have i2 : IsI (nxB x54 v x58) := ⟨by omega, by omega⟩
          have i3 : IsI (-(nxA x54 v x57)) := ⟨by omega, by omega⟩
          have i4 : IsI (-(nxB x54 v x58)) := ⟨by omega, by omega⟩
          have i5 : IsI (nxC x54 x59) := ⟨by omega, by omega⟩
          have i6 : IsI (nxD x54 x60) := ⟨by omega, by omega⟩
          have i7 : IsI (x56 + 1) := ⟨by omega, by omega⟩
          simp only [ho, hon, ho2, hno, hnon, hno2, hx, hxn, hx2, hn, hn2, hw, hwn, hw2, wv, w1, w2, m1, m2, m3, m4, e1, e1n, e2, n1, n2, vm, z1, z2, i1, i2, i3, i4, i5, i6, i7, ve_neg, jT, jW, jS, jN, jA, jB, jC, jD, jTn, jAn, jBn, jv, jvn, k1, k2, k3, k4, k5, k6, k7, j0, jM, k8, k9, k10, f00, eq_self, forall_eq, if_true, if_false, true_and, and_true, false_and, and_false, true_or, or_true, false_or, or_false, true_iff, iff_true, false_iff, iff_false, not_true_eq_false, not_false_eq_true, true_implies, false_implies, implies_true, forall_const, decide_true, decide_false, reduceCtorEq]
          intros
          omega
end Go.Proofs.Ytlhmhcjpdpakkaa.X
